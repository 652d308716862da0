/- Tokens: Parse. -/
import Derived.Test.YtloiclalcepbeaaTokenD
import Derived.Test.YtloiclalcepbeaaTokenP
set_option linter.unusedVariables false
set_option linter.unusedSimpArgs false
namespace Go.Proofs.Ytloiclalcepbeaa
open Go.RowKit Go.Proofs.YtloiclalcepbeaaW.PrintWords Go.Proofs.YtloiclalcepbeaaW.PrintLast
/-- '[]byte(s)', owned. -/
theorem tx_bytes_own {w0 w : World} {F : HP} (e : TypeId) (s : ByteArray) (h : Hw w0 w F) : ∃ (cs : Array Value) (fz : Nat × Nat), Hw w0 (Lib.bytesWorld w e s) (blk w.heap.size (.cells cs e fz) * F) ∧ ∀ (j : Nat) (x : Int), (numsOf s)[j]? = some x → cs[j]? = some (.int .u8 x) := by
  refine ⟨_, _, h.add w.heap.size _ (Nat.le_refl _) rfl rfl rfl (by rw [Lib.bytesWorld_size]; omega) (fun i hi => Lib.bytesWorld_at_old w e s i hi) (Lib.bytesWorld_at_new w e s), fun j x hx => ?_⟩
  have hj : j < s.size := by have := (List.getElem?_eq_some_iff.1 hx).1; rwa [numsOf_len] at this
  have hj2 : j < s.data.size := hj
  have h2 : (numsOf s)[j]? = some (((s.data[j]'hj2).toNat : Int)) := by
    unfold numsOf
    rw [List.getElem?_map, Array.getElem?_toList, Array.getElem?_eq_getElem hj2]
    rfl
  rw [h2] at hx
  simp only [Option.some.injEq] at hx
  subst hx
  unfold Lib.bytesCells
  rw [Array.getElem?_append_left (by simpa using hj2), Array.getElem?_map, Array.getElem?_eq_getElem hj2]
  rfl
set_option maxHeartbeats 6400000 in
set_option maxRecDepth 100000 in
theorem tparse_ok (s : ByteArray) (w : World) :
    Calls Try.prog 18 #[.string s] w fun e w' => e = .returned (.tuple #[.agg #[.int .i64 (tparse (numsOf s)).1, .int .i64 (tparse (numsOf s)).2.1], .int .i64 (tparse (numsOf s)).2.2]) ∧ Below w.heap.size w w' := by
  have H1 := Aside0.mk ((Hw.start w).alloc (.cells #[.int .i64 0, .int .i64 0] 23))
  obtain ⟨xs, hxs⟩ : ∃ xs, xs = numsOf s := ⟨_, rfl⟩
  have hlen := numsOf_len s
  have XB := Aside0.mk (numsOf_bytes s)
  rw [← hxs] at hlen XB ⊢
  by_cases hlong : 16 < s.size
  · have TP := Aside0.mk (tparse_long xs (by rw [hlen]; exact hlong))
    rw [TP.out]
    have d1 : decide ((16 : Int) < (s.size : Int)) = true := decide_eq_true (by omega)
    have d2 : decide (16 < s.size) = true := decide_eq_true hlong
    go_enter Try.func18, Try.ntmps18
    have f4 := H1.out.unfrozen
    have k0 := H1.out.cell (i := 0) (v := .int .i64 0) rfl
    have k1 := H1.out.cell (i := 1) (v := .int .i64 0) rfl
    go_wp2_with fail
    refine bodyPost_ret (v := .tuple #[.agg #[.int .i64 0, .int .i64 0], .int .i64 2]) (by simp [results, Try.results18, go_sem, k0, k1]) rfl ⟨by first | rfl | exact ⟨rfl, rfl, rfl⟩ | simp, H1.out.below⟩
  · have d1 : decide ((16 : Int) < (s.size : Int)) = false := decide_eq_false (by omega)
    have d2 : decide (16 < s.size) = false := decide_eq_false hlong
    obtain ⟨cs, fz, h2, hcs⟩ := tx_bytes_own 5 s H1.out
    have hkb := Lib.run_convert_string_bytes (P := Try.prog) (w.alloc (.cells #[.int .i64 0, .int .i64 0] 23)) 9 35 5 s Try.underlying9 Try.underlying35 Try.underlying5
    simp only [World.size_alloc] at h2 hkb
    rw [← hxs] at hcs
    have CS := Aside0.mk hcs
    have H2 := Aside0.mk ((h2.row_nil (Kd.int .i64) 3))
    have HL := Aside0.mk hlen
    clear h2 hcs H1 hxs hlen
    go_enter Try.func18, Try.ntmps18
    go_wp2_with fail
    clear hkb d1 d2
    go_loopw [19, 4] (fun i v wr => ∃ (k : Nat) (A : Option Addr) (c : Nat), k ≤ s.size ∧ i = .int .i64 k ∧ v = .slice A k c ∧ Aside0 (digs ((xs.take k).map plc)) ∧
      Aside0 (Hw w wr (row (Kd.int .i64) 3 (.slice A k c) ((xs.take k).map plc) * (blk (w.heap.size + 1) (.cells cs 5 fz) * (blk w.heap.size (.cells #[.int .i64 0, .int .i64 0] 23) * HP.emp))))) (fun i _ _ => s.size - (intOf i).toNat)
    case atStart => exact ⟨0, none, 0, Nat.zero_le _, rfl, rfl, ⟨by intro d hd; simp at hd⟩, H2⟩
    case round =>
      obtain ⟨k, A, c, hk, rfl, rfl, HD, HW⟩ := hrel
      clear H2
      by_cases hlt : k < s.size
      · obtain ⟨x, hx⟩ : ∃ x, xs[k]? = some x := ⟨_, List.getElem?_eq_getElem (by rw [HL.out]; exact hlt)⟩
        have hcell := (HW.out.atB (w.heap.size + 1)).cell (CS.out k x hx)
        obtain ⟨hx0, hx1⟩ := XB.out x (List.mem_of_getElem? hx)
        obtain ⟨p0, p1, p2⟩ := plc_range x hx0 hx1
        have PI := Aside0.mk (plc_index x hx0 hx1)
        have X := Aside0.mk hx
        clear hx p2
        go_wp2_with fail
        refine (Try.strings_IndexByte _ x wr).mono ?_
        rintro e w3 ⟨rfl, rfl⟩
        rw [PI.out]
        clear PI hcell
        by_cases hneg : plc x < 0
        · have TP := Aside0.mk (tparse_byte xs (by rw [HL.out]; omega) k x X.out hneg)
          obtain ⟨y, hy⟩ : ∃ y, y = plc x := ⟨_, rfl⟩
          rw [← hy] at hneg ⊢
          clear hy p0 p1
          have HZ := Aside0.mk (HW.out.atB w.heap.size)
          have f4 := HZ.out.unfrozen
          have k0 := HZ.out.cell (i := 0) rfl
          have k1 := HZ.out.cell (i := 1) rfl
          have H5 := Aside0.mk ((HZ.out.set 0 (.int .i64 0)).set 1 (.int .i64 0))
          go_wp2_with fail
          have z0 := H5.out.cell (i := 0) (v := .int .i64 0) rfl
          have z1 := H5.out.cell (i := 1) (v := .int .i64 0) rfl
          clear f4 k0 k1
          refine bodyPost_ret (v := .tuple #[.agg #[.int .i64 0, .int .i64 0], .int .i64 20]) (by simp [results, Try.results18, go_sem, z0, z1]) rfl ⟨by rw [TP.out], H5.out.below⟩
        · have HD2 := Aside0.mk (show digs ((xs.take (k + 1)).map plc) by
            rw [take_snoc_of X.out, List.map_append]
            intro d hd
            rcases List.mem_append.1 hd with h | h
            · exact HD.out d h
            · have h : d = plc x := by simpa using h
              subst h
              omega)
          have TK := Aside0.mk (show (xs.take k).map plc ++ [plc x] = (xs.take (k + 1)).map plc by rw [take_snoc_of X.out, List.map_append]; rfl)
          have KL := Aside0.mk (show ((xs.take k).map plc).length = k by rw [List.length_map, List.length_take, HL.out]; omega)
          have KL2 := Aside0.mk (show ((xs.take (k + 1)).map plc).length = k + 1 by rw [List.length_map, List.length_take, HL.out]; omega)
          obtain ⟨y, hy⟩ : ∃ y, y = plc x := ⟨_, rfl⟩
          rw [← hy] at hneg TK p0 p1 ⊢
          clear hy
          have H3 := Aside0.mk ((HW.out.alloc (.cells #[.int .i64 y] 3)).atR (Kd.int .i64) 3 (.slice A k c))
          have HC3 := Aside0.mk (C_blk (enc := Value.int .i64) (h1 := fun _ => rfl) (xs := [y]) (by simp) (HW.out.alloc (.cells #[.int .i64 y] 3)).blk_at.1)
          go_wp2_with (at_builtin; refine Hw.append_int (k := .i64) rfl (.tmp 28) (.tmp 30) 48 3 8 rfl Try.underlying48 Try.tinfo64 (by decide) _ ((xs.take k).map plc) [y] _ 1 1 rfl rfl H3.out HC3.out (by rw [KL.out]; omega) ((xs.take (k + 1)).map plc) TK.out (k + 1) KL2.out ?_; intro A4 c4 w4 H4)
          go_roundw
          case rel => exact ⟨k + 1, A4, c4, by omega, by go_num, by simp, HD2, ⟨H4.out.dropB w3.heap.size⟩⟩
          case measure => simp [intOf]; omega
      · have hk2 : k = s.size := by omega
        have et : xs.take k = xs := List.take_of_length_le (by rw [HL.out]; omega)
        rw [et] at HD HW
        clear et hk
        have TP := Aside0.mk (tparse_rest xs (by rw [HL.out]; omega) HD.out)
        obtain ⟨ds, hds⟩ : ∃ ds, ds = xs.map plc := ⟨_, rfl⟩
        have DL := Aside0.mk (show ds.length = k by rw [hds, List.length_map, HL.out]; exact hk2.symm)
        rw [← hds] at HD HW TP
        have TP1 := TP
        have hk16 : k ≤ 16 := by omega
        clear TP HL XB CS hds hk2
        by_cases hshort : k < 2
        · have TP := Aside0.mk (TP1.out.trans (show tparse2 ds = (0, 0, 10) from if_pos (by rw [DL.out]; exact hshort)))
          have d1 : decide ((k : Int) < 2) = true := decide_eq_true (by omega)
          have d2 : decide (k < 2) = true := decide_eq_true hshort
          have HZ := Aside0.mk (HW.out.atB w.heap.size)
          have f4 := HZ.out.unfrozen
          have k0 := HZ.out.cell (i := 0) rfl
          have k1 := HZ.out.cell (i := 1) rfl
          have H5 := Aside0.mk ((HZ.out.set 0 (.int .i64 0)).set 1 (.int .i64 0))
          go_wp2_with fail
          have z0 := H5.out.cell (i := 0) (v := .int .i64 0) rfl
          have z1 := H5.out.cell (i := 1) (v := .int .i64 0) rfl
          clear f4 k0 k1
          refine bodyPost_ret (v := .tuple #[.agg #[.int .i64 0, .int .i64 0], .int .i64 10]) (by simp [results, Try.results18, go_sem, z0, z1]) rfl ⟨by rw [TP.out], H5.out.below⟩
        · have d1 : decide ((k : Int) < 2) = false := decide_eq_false (by omega)
          have d2 : decide (k < 2) = false := decide_eq_false hshort
          obtain ⟨n, hn⟩ : ∃ n, k = n + 1 := ⟨k - 1, by omega⟩
          subst hn
          have e1 : wrap64 (((n + 1 : Nat) : Int) - 1) = n := by have := (i64_in (n : Int) (by omega) (by omega)).1; rw [show ((n + 1 : Nat) : Int) - 1 = n by omega]; exact this
          have e2 : IntKind.i64.wrap (((n + 1 : Nat) : Int) - 1) = n := by have := (i64_in (n : Int) (by omega) (by omega)).2; rw [show ((n + 1 : Nat) : Int) - 1 = n by omega]; exact this
          have hnn : 1 ≤ n := by omega
          have hn16 : n + 1 ≤ 16 := hk16
          have lt1 : (n : Int) < (n : Int) + 1 := by omega
          have hrc := HW.out.row_C
          obtain ⟨g, c', eA⟩ := HW.out.row_form (by rw [DL.out]; omega)
          injection eA with eA eB eC
          subst eA
          subst eC
          clear eB
          obtain ⟨inf, hinf, hiz0, hiz1, hiz2⟩ := info_parts Try.tinfo64
          obtain ⟨hcut, hC⟩ := sl_take (Kd.int .i64) 48 3 Try.underlying48 hinf (some ⟨g, 0, none⟩) (n + 1) c (n : Int) n rfl (by omega) hrc.2.1
          obtain ⟨A', hcut2, hC2⟩ := sl_mid (Kd.int .i64) 48 3 Try.underlying48 hinf hiz1 (some ⟨g, 0, none⟩) (n + 1) c 1 (n : Int) 1 n rfl rfl hnn (by omega) hrc.2.1
          obtain ⟨x, hx⟩ : ∃ x, ds[0]? = some x := ⟨_, List.getElem?_eq_getElem (by rw [DL.out]; omega)⟩
          obtain ⟨z, hz⟩ : ∃ z, ds[n]? = some z := ⟨_, List.getElem?_eq_getElem (by rw [DL.out]; omega)⟩
          have hx30 := HD.out x (List.mem_of_getElem? hx)
          have TE := Aside0.mk (TP1.out.trans (tparse2_eq ds n x z DL.out hnn hx hz))
          obtain ⟨t0, ht0⟩ : ∃ t0 : Int, t0 = (tcheck (ds.take n) : Int) := ⟨_, rfl⟩
          rw [← ht0] at TE
          have TC := Aside0.mk (show Calls Try.prog 32 #[.slice (some ⟨g, 0, none⟩) n c] wr.drew (fun e w' => e = .returned (.int .i64 t0) ∧ w' = wr.drew) by
            rw [ht0]
            exact tcheck_ok (some ⟨g, 0, none⟩) n c (ds.take n) wr.drew (hC _ _ HW.out.drew.row_C.2.2) (by omega) (fun d hd => HD.out d (List.mem_of_mem_take hd)))
          have HC2 := Aside0.mk hC2
          have X := Aside0.mk hx
          have hrow : ∀ W (F : HP), Hw w W (row (Kd.int .i64) 3 (.slice (some ⟨g, 0, none⟩) (n + 1) c) ds * F) → ∀ i y, ds[i]? = some y → W.cell? ⟨g, i, none⟩ = some (.int .i64 y) := fun W F hW i y hy => by
            have h2 := hW.as (Q := row (Kd.int .i64) 3 (.slice (some ⟨g, 0, none⟩) ds.length c) ds * F) (by rw [DL.out])
            exact (Hw.row_cell (enc := Value.int .i64) (h1 := fun _ => rfl) h2 i y hy).1
          have RC := Aside0.mk hrow
          have hcz := hrow _ _ HW.out.drew n z hz
          have hcz' := Aside0.mk (hrow _ _ HW.out)
          have HW2 := Aside0.mk HW.out.drew
          clear hrow hC hC2 hrc hinf hiz0 hiz1 hiz2 HW TP1 ht0 hz hx d1 d2 hcz'
          by_cases hsum : t0 = z
          · subst hsum
            have q1 : (t0 != t0) = false := by simp
            go_upto_region 15 with fail
            refine start_ (n := 9) (S := fun w' => w'.cell? ⟨g, n, none⟩ = some (.int .i64 t0)) (ds := []) #[false, false, false, false, false, false, false, false, false] (by kernel_rfl) rfl rfl (hcz) (fun hHeld => ?_)
            refine pure_ (i := 0) (N := some 40) (v := ?_) (a' := ?_) #[true, false, false, false, false, false, false, false, false] rfl rfl (by kernel_rfl) (fun _ _ _ h => h) (Or.inl ⟨by rfl, ?_⟩) ?_ ?_
            rotate_left
            · intro w'
              go_simp
              with_reducible rfl
            rotate_left
            · simp only [Act.put, List.setIfInBounds_toArray, List.set_cons_zero, List.set_cons_succ, i64_w, i32_w]
              rfl
            refine pure_ (i := 1) (N := some 41) (v := ?_) (a' := ?_) #[true, true, false, false, false, false, false, false, false] rfl rfl (by kernel_rfl) (fun _ _ _ h => h) (Or.inl ⟨by rfl, ?_⟩) ?_ ?_
            rotate_left
            · intro w'
              go_simp
              with_reducible rfl
            rotate_left
            · simp only [Act.put, List.setIfInBounds_toArray, List.set_cons_zero, List.set_cons_succ, i64_w, i32_w]
              rfl
            refine pure_ (i := 2) (N := some 42) (v := ?_) (a' := ?_) #[true, true, true, false, false, false, false, false, false] rfl rfl (by kernel_rfl) (fun _ _ _ h => h) (Or.inl ⟨by rfl, ?_⟩) ?_ ?_
            rotate_left
            · intro w'
              go_simp
              with_reducible rfl
            rotate_left
            · simp only [Act.put, List.setIfInBounds_toArray, List.set_cons_zero, List.set_cons_succ, i64_w, i32_w]
              rfl
            refine pure_ (i := 4) (N := some 44) (v := ?_) (a' := ?_) #[true, true, true, false, true, false, false, false, false] rfl rfl (by kernel_rfl) (fun _ _ _ h => h) (Or.inl ⟨by rfl, ?_⟩) ?_ ?_
            rotate_left
            · intro w'
              go_simp
              with_reducible rfl
            rotate_left
            · simp only [Act.put, List.setIfInBounds_toArray, List.set_cons_zero, List.set_cons_succ, i64_w, i32_w]
              rfl
            refine pure_ (i := 5) (N := some 45) (v := ?_) (a' := ?_) #[true, true, true, false, true, true, false, false, false] rfl rfl (by kernel_rfl) (fun _ _ _ h => h) (Or.inl ⟨by rfl, ?_⟩) ?_ ?_
            rotate_left
            · intro w'
              go_simp
              with_reducible rfl
            rotate_left
            · simp only [Act.put, List.setIfInBounds_toArray, List.set_cons_zero, List.set_cons_succ, i64_w, i32_w]
              rfl
            refine pure_ (i := 6) (N := some 46) (v := ?_) (a' := ?_) #[true, true, true, false, true, true, true, false, false] rfl rfl (by kernel_rfl) (fun _ _ _ h => h) (Or.inl ⟨by rfl, ?_⟩) ?_ ?_
            rotate_left
            · intro w'
              go_simp
              with_reducible rfl
            rotate_left
            · simp only [Act.put, List.setIfInBounds_toArray, List.set_cons_zero, List.set_cons_succ, i64_w, i32_w]
              rfl
            refine take_ (i := 7) (N := some 47) (v := ?_) (a' := ?_) #[true, true, true, false, true, true, true, true, false] rfl rfl (by kernel_rfl) (fun _ _ _ h => h) (Or.inl ⟨by rfl, ?_⟩) hHeld ?_ ?_
            rotate_left
            · intro w' s0
              go_simp
              with_reducible rfl
            rotate_left
            · simp only [Act.put, List.setIfInBounds_toArray, List.set_cons_zero, List.set_cons_succ, i64_w, i32_w]
              rfl
            refine one_ (i := 3) (N := some 43) #[true, true, true, true, true, true, true, true, false] rfl rfl (by kernel_rfl) (by decide) (fun K hK => ?_)
            refine goes_ Try.func32 (by kernel_rfl) rfl #[.slice (some ⟨g, 0, none⟩) n c] (by rfl) rfl rfl (by simp only [List.map_toArray, List.map_cons, List.map_nil]; rfl) ?_
            with_reducible refine (TC.out).mono ?_
            rintro e w4 ⟨rfl, rfl⟩
            refine ⟨_, rfl, ?_⟩
            refine hK.out _ _ (hcz) (fun hHeld => ?_)
            clear hK K
            refine norm_ (a' := ?_) ?_ ?_
            rotate_left
            · show Act.put _ (some 43) _ = _
              simp only [Act.put, List.setIfInBounds_toArray, List.set_cons_zero, List.set_cons_succ, i64_w, i32_w]
              rfl
            refine pure_ (i := 8) (N := some 48) (v := ?_) (a' := ?_) #[true, true, true, true, true, true, true, true, true] rfl rfl (by kernel_rfl) (fun _ _ _ h => h) (Or.inl ⟨by rfl, ?_⟩) ?_ ?_
            rotate_left
            · intro w'
              go_simp
              with_reducible rfl
            rotate_left
            · simp only [Act.put, List.setIfInBounds_toArray, List.set_cons_zero, List.set_cons_succ, i64_w, i32_w]
              rfl
            refine done_ (by kernel_rfl) ?_
            clear hHeld hcz hcut e1 e2 q1 TC lt1
            have TE2 := Aside0.mk (TE.out.trans (if_neg (by simp)))
            clear TE
            by_cases hform : 1 < n ∧ ds.getD 1 0 = 0
            · have TP := Aside0.mk (TE2.out.trans (if_pos hform))
              obtain ⟨hn1, hy⟩ := hform
              have hy1 : ds[1]? = some 0 := by
                have h1 : 1 < ds.length := by rw [DL.out]; omega
                rw [List.getD_eq_getElem?_getD, List.getElem?_eq_getElem h1] at hy
                rw [List.getElem?_eq_getElem h1]
                exact congrArg some hy
              have hc1 := RC.out _ _ HW2.out 1 0 hy1
              have d3 : decide ((1 : Int) < n) = true := decide_eq_true (by omega)
              have d4 : decide (1 < n) = true := decide_eq_true hn1
              clear hy hy1
              have HZ := Aside0.mk (HW2.out.atB w.heap.size)
              have f4 := HZ.out.unfrozen
              have k0 := HZ.out.cell (i := 0) rfl
              have k1 := HZ.out.cell (i := 1) rfl
              have f5 : ∀ i, wr.frozen? ⟨w.heap.size, i, none⟩ = false := f4
              have k5 : wr.cell? ⟨w.heap.size, 0, none⟩ = some (.int .i64 0) := k0
              have k6 : wr.cell? ⟨w.heap.size, 1, none⟩ = some (.int .i64 0) := k1
              have H5 := Aside0.mk ((HZ.out.set 0 (.int .i64 0)).set 1 (.int .i64 0))
              go_wp2_with fail
              have z0 := H5.out.cell (i := 0) (v := .int .i64 0) rfl
              have z1 := H5.out.cell (i := 1) (v := .int .i64 0) rfl
              clear f4 k0 k1 f5 k5 k6
              have z2 : (wr.setCell ⟨w.heap.size, 0, none⟩ (.int .i64 0)).cell? ⟨w.heap.size, 0, none⟩ = some (.int .i64 0) := (HZ.out.set 0 (.int .i64 0)).cell (i := 0) (v := .int .i64 0) rfl
              have z3 : ((wr.setCell ⟨w.heap.size, 0, none⟩ (.int .i64 0)).setCell ⟨w.heap.size, 1, none⟩ (.int .i64 0)).cell? ⟨w.heap.size, 1, none⟩ = some (.int .i64 0) := z1
              refine bodyPost_ret (v := .tuple #[.agg #[.int .i64 0, .int .i64 0], .int .i64 51]) (by simp [results, Try.results18, go_sem, z0, z1, z2, z3]) rfl ⟨by rw [TP.out], H5.out.below⟩
            · have TE3 := Aside0.mk (TE2.out.trans (if_neg hform))
              have hc0 := RC.out _ _ HW2.out 0 x X.out
              have hcase : (decide ((1 : Int) < n) = false ∧ decide (1 < n) = false ∧ (0 : Int) = 0) ∨ ∃ y : Int, decide ((1 : Int) < n) = true ∧ decide (1 < n) = true ∧ wr.drew.cell? ⟨g, 1, none⟩ = some (.int .i64 y) ∧ (1 : Int) < (n : Int) + 1 ∧ (y == 0) = false := by
                by_cases hn1 : 1 < n
                · right
                  have h1 : 1 < ds.length := by rw [DL.out]; omega
                  refine ⟨ds[1], decide_eq_true (by omega), decide_eq_true hn1, RC.out _ _ HW2.out 1 _ (List.getElem?_eq_getElem h1), by omega, ?_⟩
                  rw [beq_eq_false_iff_ne]
                  intro h0
                  exact hform ⟨hn1, by rw [List.getD_eq_getElem?_getD, List.getElem?_eq_getElem h1]; exact h0⟩
                · exact .inl ⟨decide_eq_false (by omega), decide_eq_false hn1, rfl⟩
              obtain ⟨m, hm⟩ : ∃ m, m = n - 1 := ⟨_, rfl⟩
              rw [← hm] at hcut2 HC2
              have hm16 : m ≤ 16 := by omega
              have HM := Aside0.mk (show ((ds.take n).drop 1).length = m by rw [List.length_drop, List.length_take, DL.out]; omega)
              have hmd : digs ((ds.take n).drop 1) := fun d hd => HD.out d (List.mem_of_mem_take (List.mem_of_mem_drop hd))
              obtain ⟨mid, hmid⟩ : ∃ mid, mid = (ds.take n).drop 1 := ⟨_, rfl⟩
              rw [← hmid] at TE3 HM hmd
              have HC3 : Aside0 (∀ W : World, (Kd.int .i64).C W (some ⟨g, 0, none⟩) (n + 1) ds → (Kd.int .i64).C W A' m mid) := ⟨fun W h => by rw [hmid]; exact HC2.out W ds h⟩
              have MD := Aside0.mk hmd
              have HW3 := Aside0.mk (HW2.out.alloc (.cells #[.int .i64 x, .int .i64 0] 23))
              have n0 : (0 : Int) < (n : Int) + 1 := by omega
              clear hform TE2 hm hmid hmd HC2
              rcases hcase with ⟨d3, d4, _⟩ | ⟨y, d3, d4, hc1, lt2, hy0⟩
              all_goals
                go_wp2_with fail
                clear d3 d4
                go_loopw [67] (fun i W2 => ∃ (k : Nat) (r : Int), k ≤ m ∧ i = .int .i64 k ∧ Aside0 (r = rval (mid.take k)) ∧ 0 ≤ r ∧ r ≤ 1125899906842624 ∧
                  Aside0 (Hw w W2 (blk wr.heap.size (.cells #[.int .i64 x, .int .i64 r] 23) * (row (Kd.int .i64) 3 (.slice (some ⟨g, 0, none⟩) (n + 1) c) ds * (blk (w.heap.size + 1) (.cells cs 5 fz) * (blk w.heap.size (.cells #[.int .i64 0, .int .i64 0] 23) * HP.emp)))))) (fun i _ => m - (intOf i).toNat)
                case atStart => exact ⟨0, 0, Nat.zero_le _, rfl, ⟨rfl⟩, by decide, by decide, HW3⟩
                case round =>
                  obtain ⟨k, r, hk, rfl, HR, hr0, hr1, HW4⟩ := hrel
                  clear HW3
                  by_cases hlt4 : k < m
                  · obtain ⟨ad', d, rfl, hcell, hd⟩ := C_scalar_at (enc := Value.int .i64) (h1 := fun _ => rfl) (HC3.out _ (HW4.out.atR (Kd.int .i64) 3 (.slice (some ⟨g, 0, none⟩) (n + 1) c)).row_C.2.2) k hlt4
                    obtain ⟨hd0, hd1⟩ := MD.out d (List.mem_of_getElem? hd.out)
                    have z1 := HW4.out.cell (i := 1) (v := .int .i64 r) rfl
                    have fr := HW4.out.unfrozen 1
                    have RV := Aside0.mk (show r * 31 + d = rval (mid.take (k + 1)) by rw [take_snoc_of hd.out, rval_snoc, ← HR.out])
                    obtain ⟨a1, a2⟩ := i64_in (r * 31) (by omega) (by omega)
                    obtain ⟨a3, a4⟩ := i64_in (r * 31 + d) (by omega) (by omega)
                    have HX := Aside0.mk (HW4.out.set 1 (.int .i64 (r * 31 + d)))
                    have zc := HX.out.cell (i := 1) (v := .int .i64 (r * 31 + d)) rfl
                    have hge : 0 ≤ r * 31 + d := by omega
                    obtain ⟨R, hR⟩ : ∃ R, R = r * 31 + d := ⟨_, rfl⟩
                    clear hd
                    by_cases hov : 1125899906842624 < r * 31 + d
                    · have TP := Aside0.mk (TE3.out.trans (if_pos (by have := rval_mono mid MD.out (k + 1); rw [← RV.out] at this; omega)))
                      clear hR
                      have HZ := Aside0.mk (HX.out.atB w.heap.size)
                      have f4 := HZ.out.unfrozen
                      have k0 := HZ.out.cell (i := 0) rfl
                      have k1 := HZ.out.cell (i := 1) rfl
                      have H5 := Aside0.mk ((HZ.out.set 0 (.int .i64 0)).set 1 (.int .i64 0))
                      go_wp2_with fail
                      have z0 := H5.out.cell (i := 0) (v := .int .i64 0) rfl
                      have z1 := H5.out.cell (i := 1) (v := .int .i64 0) rfl
                      clear f4 k0 k1
                      refine bodyPost_ret (v := .tuple #[.agg #[.int .i64 0, .int .i64 0], .int .i64 1]) (by simp [results, Try.results18, go_sem, z0, z1]) rfl ⟨by rw [TP.out], H5.out.below⟩
                    · clear hR
                      go_wp2_with fail
                      go_roundw
                      case rel => exact ⟨k + 1, r * 31 + d, by omega, by go_num, RV, hge, by omega, HX⟩
                      case measure => simp [intOf]; omega
                  · have hkm : k = m := by omega
                    have et : mid.take k = mid := List.take_of_length_le (by rw [HM.out]; omega)
                    rw [et] at HR
                    have TE4 := Aside0.mk (TE3.out.trans (if_neg (by rw [← HR.out]; omega)))
                    have y0 := HW4.out.cell (i := 0) (v := .int .i64 x) rfl
                    have y1 := HW4.out.cell (i := 1) (v := .int .i64 r) rfl
                    clear et hkm
                    by_cases hx8 : 8 ≤ x
                    · have TP := Aside0.mk (TE4.out.trans (if_pos hx8))
                      have HZ := Aside0.mk (HW4.out.atB w.heap.size)
                      have f4 := HZ.out.unfrozen
                      have k0 := HZ.out.cell (i := 0) rfl
                      have k1 := HZ.out.cell (i := 1) rfl
                      have H5 := Aside0.mk ((HZ.out.set 0 (.int .i64 0)).set 1 (.int .i64 0))
                      go_wp2_with fail
                      have z0 := H5.out.cell (i := 0) (v := .int .i64 0) rfl
                      have z1 := H5.out.cell (i := 1) (v := .int .i64 0) rfl
                      clear f4 k0 k1
                      refine bodyPost_ret (v := .tuple #[.agg #[.int .i64 0, .int .i64 0], .int .i64 1]) (by simp [results, Try.results18, go_sem, z0, z1]) rfl ⟨by rw [TP.out], H5.out.below⟩
                    · have TP := Aside0.mk (TE4.out.trans (if_neg hx8))
                      rw [← HR.out] at TP
                      have HZ := Aside0.mk (HW4.out.atB w.heap.size)
                      have f4 := HZ.out.unfrozen
                      have k0 := HZ.out.cell (i := 0) rfl
                      have k1 := HZ.out.cell (i := 1) rfl
                      have H5 := Aside0.mk ((HZ.out.set 0 (.int .i64 x)).set 1 (.int .i64 r))
                      go_wp2_with fail
                      have z0 := H5.out.cell (i := 0) (v := .int .i64 x) rfl
                      have z1 := H5.out.cell (i := 1) (v := .int .i64 r) rfl
                      clear f4 k0 k1 y0 y1
                      refine bodyPost_ret (v := .tuple #[.agg #[.int .i64 x, .int .i64 r], .int .i64 0]) (by simp [results, Try.results18, go_sem, z0, z1]) rfl ⟨by rw [TP.out], H5.out.below⟩
          · have q1 : (t0 != z) = true := by simpa using hsum
            have TP := Aside0.mk (TE.out.trans (if_pos hsum))
            go_upto_region 15 with fail
            refine start_ (n := 9) (S := fun w' => w'.cell? ⟨g, n, none⟩ = some (.int .i64 z)) (ds := []) #[false, false, false, false, false, false, false, false, false] (by kernel_rfl) rfl rfl (hcz) (fun hHeld => ?_)
            refine pure_ (i := 0) (N := some 40) (v := ?_) (a' := ?_) #[true, false, false, false, false, false, false, false, false] rfl rfl (by kernel_rfl) (fun _ _ _ h => h) (Or.inl ⟨by rfl, ?_⟩) ?_ ?_
            rotate_left
            · intro w'
              go_simp
              with_reducible rfl
            rotate_left
            · simp only [Act.put, List.setIfInBounds_toArray, List.set_cons_zero, List.set_cons_succ, i64_w, i32_w]
              rfl
            refine pure_ (i := 1) (N := some 41) (v := ?_) (a' := ?_) #[true, true, false, false, false, false, false, false, false] rfl rfl (by kernel_rfl) (fun _ _ _ h => h) (Or.inl ⟨by rfl, ?_⟩) ?_ ?_
            rotate_left
            · intro w'
              go_simp
              with_reducible rfl
            rotate_left
            · simp only [Act.put, List.setIfInBounds_toArray, List.set_cons_zero, List.set_cons_succ, i64_w, i32_w]
              rfl
            refine pure_ (i := 2) (N := some 42) (v := ?_) (a' := ?_) #[true, true, true, false, false, false, false, false, false] rfl rfl (by kernel_rfl) (fun _ _ _ h => h) (Or.inl ⟨by rfl, ?_⟩) ?_ ?_
            rotate_left
            · intro w'
              go_simp
              with_reducible rfl
            rotate_left
            · simp only [Act.put, List.setIfInBounds_toArray, List.set_cons_zero, List.set_cons_succ, i64_w, i32_w]
              rfl
            refine pure_ (i := 4) (N := some 44) (v := ?_) (a' := ?_) #[true, true, true, false, true, false, false, false, false] rfl rfl (by kernel_rfl) (fun _ _ _ h => h) (Or.inl ⟨by rfl, ?_⟩) ?_ ?_
            rotate_left
            · intro w'
              go_simp
              with_reducible rfl
            rotate_left
            · simp only [Act.put, List.setIfInBounds_toArray, List.set_cons_zero, List.set_cons_succ, i64_w, i32_w]
              rfl
            refine pure_ (i := 5) (N := some 45) (v := ?_) (a' := ?_) #[true, true, true, false, true, true, false, false, false] rfl rfl (by kernel_rfl) (fun _ _ _ h => h) (Or.inl ⟨by rfl, ?_⟩) ?_ ?_
            rotate_left
            · intro w'
              go_simp
              with_reducible rfl
            rotate_left
            · simp only [Act.put, List.setIfInBounds_toArray, List.set_cons_zero, List.set_cons_succ, i64_w, i32_w]
              rfl
            refine pure_ (i := 6) (N := some 46) (v := ?_) (a' := ?_) #[true, true, true, false, true, true, true, false, false] rfl rfl (by kernel_rfl) (fun _ _ _ h => h) (Or.inl ⟨by rfl, ?_⟩) ?_ ?_
            rotate_left
            · intro w'
              go_simp
              with_reducible rfl
            rotate_left
            · simp only [Act.put, List.setIfInBounds_toArray, List.set_cons_zero, List.set_cons_succ, i64_w, i32_w]
              rfl
            refine take_ (i := 7) (N := some 47) (v := ?_) (a' := ?_) #[true, true, true, false, true, true, true, true, false] rfl rfl (by kernel_rfl) (fun _ _ _ h => h) (Or.inl ⟨by rfl, ?_⟩) hHeld ?_ ?_
            rotate_left
            · intro w' s0
              go_simp
              with_reducible rfl
            rotate_left
            · simp only [Act.put, List.setIfInBounds_toArray, List.set_cons_zero, List.set_cons_succ, i64_w, i32_w]
              rfl
            refine one_ (i := 3) (N := some 43) #[true, true, true, true, true, true, true, true, false] rfl rfl (by kernel_rfl) (by decide) (fun K hK => ?_)
            refine goes_ Try.func32 (by kernel_rfl) rfl #[.slice (some ⟨g, 0, none⟩) n c] (by rfl) rfl rfl (by simp only [List.map_toArray, List.map_cons, List.map_nil]; rfl) ?_
            with_reducible refine (TC.out).mono ?_
            rintro e w4 ⟨rfl, rfl⟩
            refine ⟨_, rfl, ?_⟩
            refine hK.out _ _ (hcz) (fun hHeld => ?_)
            clear hK K
            refine norm_ (a' := ?_) ?_ ?_
            rotate_left
            · show Act.put _ (some 43) _ = _
              simp only [Act.put, List.setIfInBounds_toArray, List.set_cons_zero, List.set_cons_succ, i64_w, i32_w]
              rfl
            refine pure_ (i := 8) (N := some 48) (v := ?_) (a' := ?_) #[true, true, true, true, true, true, true, true, true] rfl rfl (by kernel_rfl) (fun _ _ _ h => h) (Or.inl ⟨by rfl, ?_⟩) ?_ ?_
            rotate_left
            · intro w'
              go_simp
              with_reducible rfl
            rotate_left
            · simp only [Act.put, List.setIfInBounds_toArray, List.set_cons_zero, List.set_cons_succ, i64_w, i32_w]
              rfl
            refine done_ (by kernel_rfl) ?_
            clear hHeld
            have HZ := Aside0.mk (HW2.out.atB w.heap.size)
            have f4 := HZ.out.unfrozen
            have k0 := HZ.out.cell (i := 0) rfl
            have k1 := HZ.out.cell (i := 1) rfl
            have f5 : ∀ i, wr.frozen? ⟨w.heap.size, i, none⟩ = false := f4
            have k5 : wr.cell? ⟨w.heap.size, 0, none⟩ = some (.int .i64 0) := k0
            have k6 : wr.cell? ⟨w.heap.size, 1, none⟩ = some (.int .i64 0) := k1
            have H5 := Aside0.mk ((HZ.out.set 0 (.int .i64 0)).set 1 (.int .i64 0))
            go_wp2_with fail
            have z0 := H5.out.cell (i := 0) (v := .int .i64 0) rfl
            have z1 := H5.out.cell (i := 1) (v := .int .i64 0) rfl
            clear f4 k0 k1 f5 k5 k6
            have z2 : (wr.setCell ⟨w.heap.size, 0, none⟩ (.int .i64 0)).cell? ⟨w.heap.size, 0, none⟩ = some (.int .i64 0) := (HZ.out.set 0 (.int .i64 0)).cell (i := 0) (v := .int .i64 0) rfl
            have z3 : ((wr.setCell ⟨w.heap.size, 0, none⟩ (.int .i64 0)).setCell ⟨w.heap.size, 1, none⟩ (.int .i64 0)).cell? ⟨w.heap.size, 1, none⟩ = some (.int .i64 0) := z1
            refine bodyPost_ret (v := .tuple #[.agg #[.int .i64 0, .int .i64 0], .int .i64 11]) (by simp [results, Try.results18, go_sem, z0, z1, z2, z3]) rfl ⟨by rw [TP.out], H5.out.below⟩
end Go.Proofs.Ytloiclalcepbeaa
