/- DiskParts' walk, where the parts have together at most 2^20 bytes. -/
import Derived.Test.YtacnogbdifgmeaaDiskOne
import Derived.Test.YtacnogbdifgmeaaRowsHP
import Derived.Test.YtacnogbdifgmeaaRefDisk
import Derived.Test.YtacnogbdifgmeaaKindsDisk
import Derived.Test.YtacnogbdifgmeaaWLast
set_option linter.unusedVariables false
set_option linter.unusedSimpArgs false
namespace Go.Proofs.Ytacnogbdifgmeaa
open Go.RowKit Go.Proofs.YtacnogbdifgmeaaW.PrintWords Go.Proofs.YtacnogbdifgmeaaW.PrintLast

theorem Try.infoBytes : (Try.prog.info? 22).map (fun i => (i.zero, i.size, i.bytes)) = some (some (.slice none 0 0), 1, 24) := by kernel_rfl

theorem set_self {α : Type _} (l : List α) (k : Nat) (x : α) (h : l[k]? = some x) : l.set k x = l := by
  apply List.ext_getElem?
  intro i
  by_cases hi : k = i
  · subst hi
    rw [List.getElem?_set_self (List.getElem?_eq_some_iff.1 h).1, h]
  · rw [List.getElem?_set_ne hi]
theorem append_both (p : Nat) (room : Int) (parts : List (List Int)) (A : Option Addr) (k c : Nat) (hk : k = parts.length) (hr : 0 ≤ room) (hr2 : room ≤ 1048576) {w0 w : World} {F : HP} (h : Hw w0 w (disk p [] 0 room * F))
    (hE : Ent w0 F (fun w => (Kd.slice 5 (Kd.int .u8)).C w A parts.length parts)) (ht : total parts ≤ 1048576) :
    Calls Try.prog 13 #[.pointer (some ⟨p, 0, none⟩), .slice A k c] w fun e w' => ∃ (r : Int) (bs : List Int), e = .returned (.int .i64 r) ∧ (r = 0 ∧ bs = parts.flatten ∧ (total parts : Int) ≤ room ∨ r = 3 ∧ bs = [] ∧ room < total parts) ∧ Hw w0 w' (disk p bs 0 room * F) := by
  subst hk
  by_cases hf : (total parts : Int) ≤ room
  · refine (append_ok p [] 0 room parts A c h hr hr2 hE (by simpa using hf)).mono ?_
    rintro e w' ⟨rfl, h'⟩
    exact ⟨0, parts.flatten, rfl, .inl ⟨rfl, rfl, hf⟩, h'⟩
  · refine (append_full p [] 0 room parts A c h hr hr2 (hE w h.right) (by omega) (by simpa using (by omega : room < (total parts : Int)))).mono ?_
    rintro e w' ⟨rfl, h'⟩
    exact ⟨3, [], rfl, .inr ⟨rfl, rfl, by omega⟩, h'⟩
set_option maxHeartbeats 3200000 in
set_option maxRecDepth 100000 in
theorem diskParts_ok (room : Int) (A : Option Addr) (parts : List (List Int)) (n ca : Nat) (w : World) (hA : (Kd.slice 5 (Kd.int .u8)).C w A n parts) (hca : n ≤ ca) (hr : 0 ≤ room) (hr2 : room ≤ 1048576) (hT : total parts + n ≤ 1048576) :
    Calls Try.prog 4 #[.slice A n ca, .int .i64 room] w fun e w' => e = .returned (.bool true) ∧ Below w.heap.size w w' := by
  have HA := Aside0.mk hA
  have hn := Aside0.mk hA.1
  clear hA
  go_enter Try.func4, Try.ntmps4
  go_wp2_with fail
  refine (awake_ok (Hw.start w)).mono ?_
  rintro e w1 ⟨rfl, h1⟩
  have H1 := Aside0.mk h1
  clear h1
  go_wp2_with fail
  refine (new_ok room hr hr2 H1.out).mono ?_
  rintro e w2 ⟨p, rfl, h2⟩
  have H2 := Aside0.mk h2
  clear h2 H1
  go_wp2_with fail
  go_loopw [30, 7, 8] (fun i s m wr => ∃ (k : Nat) (A1 : Option Addr) (c1 : Nat) (hs : List Hdr), k ≤ n ∧ i = .int .i64 k ∧ s = .string (strOfNums (parts.take k).flatten) ∧ m = .slice A1 k c1 ∧
    Aside0 (Hw w wr (row KHdr 22 (.slice A1 k c1) hs * (rowsHP (Kd.int .u8) 5 hs (parts.take k) * (disk p [] 0 room * HP.emp))))) (fun i _ _ _ => n - (intOf i).toNat)
  case atStart => exact ⟨0, none, 0, [], Nat.zero_le _, rfl, rfl, rfl, ⟨(H2.out.emp_mul.as (Q := rowsHP (Kd.int .u8) 5 [] (parts.take 0) * (disk p [] 0 room * HP.emp)) rfl).row_nil KHdr 22⟩⟩
  case round =>
    obtain ⟨k, A1, c1, hs, hk, rfl, rfl, rfl, HW⟩ := hrel
    clear H2
    by_cases hlt : k < n
    · obtain ⟨ad, A', c', x, e1, hcell, hxc, hx, hxC⟩ := C_row_at (Kd.C_below HA.out HW.out.below) k hlt
      subst e1
      have ts := flat_take_succ parts k x hx.out
      have tq := total_take_succ parts k x hx.out
      have tl := total_take_le parts (k + 1)
      have tf := flat_length (parts.take k)
      obtain ⟨s0, hs0⟩ : ∃ s0, s0 = strOfNums (parts.take k).flatten := ⟨_, rfl⟩
      rw [← hs0]
      have hz0 : s0.size = total (parts.take k) := by rw [hs0, strOfNums_size, tf]
      obtain ⟨s1, hs1⟩ : ∃ s1, s1 = strOfNums x := ⟨_, rfl⟩
      have hz1 : s1.size = x.length := by rw [hs1, strOfNums_size]
      have hz : s0.size + s1.size ≤ 1048576 := by omega
      have hcx : (convert 22 9 (.slice A' x.length c')).run Try.prog wr = .ok (.string s1) wr := by rw [hs1]; exact Kd.C_string Try.underlying22 Try.underlying5 Try.underlying9 hxC.out
      have TS := Aside0.mk (show s0 ++ s1 = strOfNums (parts.take (k + 1)).flatten by rw [ts, strOfNums_append, hs0, hs1])
      have hxl : x.length ≤ 1048576 := by omega
      have hhl : hs.length = k := by
        have h := rows_len hs (parts.take k) (HW.out.as (Q := rowsHP (Kd.int .u8) 5 hs (parts.take k) * (row KHdr 22 (.slice A1 k c1) hs * (disk p [] 0 room * HP.emp))) (by ac_rfl))
        have hn2 := hn.out
        simp only [List.length_take] at h
        omega
      have hk24 : (hs.length + 1) * 24 ≤ 140737488355328 := by omega
      have HL := Aside0.mk hhl
      clear hhl ts tq tl tf hs0 hz0 hs1 hz1
      go_wp2_with (first
        | (at_builtin; refine Hw.append_row (Value.int .u8) (0 : Int) rfl (.tmp 39) (.tmp 40) 22 5 (.int .u8 0) 1 rfl Try.underlying22 Try.infoU8 rfl (by decide) _ [] x A' x.length c' rfl rfl (Hw.row_of_blk (xs := []) (enc := Value.int .u8) (h1 := fun _ => rfl) rfl (by simp) (HW.out.alloc _)) (Kd.C_below hxC.out (below_alloc (Below.refl _ _) _)) (by simp; omega) ?_; intro A2 n2 c2 w2 hn2 hw2; obtain rfl : n2 = x.length := (by simpa using hn2.out); have HW2 := Aside0.mk (hw2.as (Q := row KHdr 22 (.slice A1 k c1) hs * (row (Kd.int .u8) 5 (.slice A2 x.length c2) x * (rowsHP (Kd.int .u8) 5 hs (parts.take k) * (disk p [] 0 room * HP.emp)))) (by rw [List.nil_append]; ac_rfl)); clear hn2 hw2)
        | (at_builtin; refine Hw.append_row hdrEnc ((none, 0, 0) : Hdr) rfl (.tmp 38) (.tmp 42) 37 22 (.slice none 0 0) 24 rfl Try.underlying37 Try.infoBytes rfl (by decide) _ hs [(A2, x.length, c2)] _ 1 1 rfl rfl (HW2.out.right_alloc _) (C_blk (h1 := fun _ => rfl) (by simp) (HW2.out.alloc _).blk_at.1) hk24 ?_; intro A3 n3 c3 w3 hn3 hw3; obtain rfl : n3 = k + 1 := (by have h1 := HL.out; have h2 := hn3.out; simp only [List.length_append, List.length_cons, List.length_nil] at h2; omega); have HW3 := Aside0.mk hw3; clear hn3 hw3))
      have hrw : rowsHP (Kd.int .u8) 5 (hs ++ [(A2, x.length, c2)]) (parts.take (k + 1)) = rowsHP (Kd.int .u8) 5 hs (parts.take k) * row (Kd.int .u8) 5 (.slice A2 x.length c2) x := by
        rw [take_succ_of _ _ _ hx.out]
        exact rows_snoc hs (parts.take k) (A2, x.length, c2) x (by have h1 := HL.out; have h2 := hn.out; rw [List.length_take]; omega)
      have HR := Aside0.mk hrw
      clear hrw
      go_wp2_with fail
      go_roundw
      case rel => exact ⟨k + 1, A3, c3, hs ++ [(A2, x.length, c2)], by omega, by go_num, by rw [TS.out], rfl, ⟨(HW3.out.as (Q := row KHdr 22 (.slice A3 (k + 1) c3) (hs ++ [(A2, x.length, c2)]) * (rowsHP (Kd.int .u8) 5 (hs ++ [(A2, x.length, c2)]) (parts.take (k + 1)) * (disk p [] 0 room * HP.emp)) * blk w2.heap.size (.cells ([(A2, x.length, c2)].map hdrEnc).toArray 22 (0, 0))) (by rw [HR.out]; ac_rfl)).left⟩⟩
      case measure => simp [intOf]; omega
    · have ek : parts.take k = parts := List.take_of_length_le (by have := hn.out; omega)
      have hkn : k = n := by omega
      subst hkn
      rw [ek] at HW
      rw [ek]
      obtain ⟨sa, hsa⟩ : ∃ sa, sa = strOfNums parts.flatten := ⟨_, rfl⟩
      rw [← hsa]
      have hsz : sa.size = total parts := by rw [hsa, strOfNums_size, flat_length]
      have SA := Aside0.mk hsa
      have SZ := Aside0.mk hsz
      clear hsa hsz
      go_wp2_with fail
      refine (append_both p room parts A1 k c1 hn.out.symm hr hr2 (HW.out.as (Q := disk p [] 0 room * (row KHdr 22 (.slice A1 k c1) hs * (rowsHP (Kd.int .u8) 5 hs parts * HP.emp))) (by ac_rfl)) (fun w' h' => (by
        obtain ⟨A9, c9, e9, _, hC⟩ := rows_C h'
        injection e9 with e1 e2 e3
        subst e1
        exact hC)) (by omega)).mono ?_
      rintro e w4 ⟨r, bs, rfl, hcase, h4⟩
      have H4 := Aside0.mk (h4.as (Q := row KHdr 22 (.slice A1 k c1) hs * (rowsHP (Kd.int .u8) 5 hs parts * (disk p bs 0 room * HP.emp))) (by ac_rfl))
      have HC := Aside0.mk hcase
      clear h4 hcase HW hlt
      go_wp2_with fail
      go_loopw [50] (fun i wr => ∃ (k2 : Nat) (xs2 : List (List Int)), k2 ≤ k ∧ i = .int .i64 k2 ∧ Aside0 (xs2.length = k ∧ ∀ j, k2 ≤ j → xs2[j]? = parts[j]?) ∧
        Aside0 (Hw w wr (row KHdr 22 (.slice A1 k c1) hs * (rowsHP (Kd.int .u8) 5 hs xs2 * (disk p bs 0 room * HP.emp))))) (fun i _ => k - (intOf i).toNat)
      case atStart => exact ⟨0, parts, Nat.zero_le _, rfl, ⟨hn.out, fun j _ => rfl⟩, ⟨H4.out⟩⟩
      case round =>
        obtain ⟨k2, xs2, hk2, rfl, HX, HW⟩ := hrel
        clear H4
        by_cases hlt : k2 < k
        · obtain ⟨ad, A', c', x, e1, hcell, hxc, hx, hxC⟩ := C_row_at (Kd.C_below HA.out HW.out.below) k2 hlt
          subst e1
          obtain ⟨bd, B, cc, R, e2, _, hcellB, hcB, hBC, HB, HK⟩ := rows_at HW.out k2 x.length x (by rw [HX.out.2 k2 (Nat.le_refl _)]; exact hx.out) rfl
          subst e2
          obtain ⟨n0, hn0⟩ : ∃ n0, n0 = x.length := ⟨_, rfl⟩
          have tq := total_take_succ parts k2 x hx.out
          have tl := total_take_le parts (k2 + 1)
          have hn0m : n0 ≤ 1048576 := by omega
          rw [← hn0] at hcell hxc hcellB hcB hxC
          have N0 := Aside0.mk hn0
          clear hn0 tq tl HB HK
          obtain ⟨s1, hs1⟩ : ∃ s1, s1 = strOfNums x := ⟨_, rfl⟩
          have S1 := Aside0.mk hs1
          clear hs1
          have cA : ∀ nq, (convert 22 9 (.slice A' n0 c')).run Try.prog (wr.drewN nq) = .ok (.string s1) (wr.drewN nq) := fun nq => by rw [S1.out]; exact C_string_n hxC.out Try.underlying22 Try.underlying5 Try.underlying9 nq
          have cB : ∀ nq, (convert 22 9 (.slice B n0 cc)).run Try.prog (wr.drewN nq) = .ok (.string s1) (wr.drewN nq) := fun nq => by rw [S1.out]; exact C_string_n (by rw [N0.out]; exact hBC.out) Try.underlying22 Try.underlying5 Try.underlying9 nq
          go_wp2_with fail
          refine start_ (n := 11) (S := fun w' => w'.cell? (ad.add k2) = some (.slice A' n0 c') ∧ w'.cell? (bd.add k2) = some (.slice B n0 cc) ∧ (convert 22 9 (.slice A' n0 c')).run Try.prog w' = .ok (.string s1) w' ∧ (convert 22 9 (.slice B n0 cc)).run Try.prog w' = .ok (.string s1) w') (ds := []) #[false, false, false, false, false, false, false, false, false, false, false] (by kernel_rfl) rfl rfl ⟨hcell, hcellB, cA 1, cB 1⟩ (fun hHeld => ?_)
          refine pure_ (i := 0) (N := some 53) (v := ?_) (a' := ?_) #[true, false, false, false, false, false, false, false, false, false, false] rfl rfl (by kernel_rfl) (fun _ _ _ h => h) (Or.inl ⟨by rfl, ?_⟩) ?_ ?_
          rotate_left
          · intro w'
            go_simp
            with_reducible rfl
          rotate_left
          · simp only [Act.put, List.setIfInBounds_toArray, List.set_cons_zero, List.set_cons_succ, i64_w, i32_w]
            rfl
          refine pure_ (i := 1) (N := some 54) (v := ?_) (a' := ?_) #[true, true, false, false, false, false, false, false, false, false, false] rfl rfl (by kernel_rfl) (fun _ _ _ h => h) (Or.inl ⟨by rfl, ?_⟩) ?_ ?_
          rotate_left
          · intro w'
            go_simp
            with_reducible rfl
          rotate_left
          · simp only [Act.put, List.setIfInBounds_toArray, List.set_cons_zero, List.set_cons_succ, i64_w, i32_w]
            rfl
          refine pure_ (i := 2) (N := some 55) (v := ?_) (a' := ?_) #[true, true, true, false, false, false, false, false, false, false, false] rfl rfl (by kernel_rfl) (fun _ _ _ h => h) (Or.inl ⟨by rfl, ?_⟩) ?_ ?_
          rotate_left
          · intro w'
            go_simp
            with_reducible rfl
          rotate_left
          · simp only [Act.put, List.setIfInBounds_toArray, List.set_cons_zero, List.set_cons_succ, i64_w, i32_w]
            rfl
          refine pure_ (i := 5) (N := some 58) (v := ?_) (a' := ?_) #[true, true, true, false, false, true, false, false, false, false, false] rfl rfl (by kernel_rfl) (fun _ _ _ h => h) (Or.inl ⟨by rfl, ?_⟩) ?_ ?_
          rotate_left
          · intro w'
            go_simp
            with_reducible rfl
          rotate_left
          · simp only [Act.put, List.setIfInBounds_toArray, List.set_cons_zero, List.set_cons_succ, i64_w, i32_w]
            rfl
          refine pure_ (i := 6) (N := some 59) (v := ?_) (a' := ?_) #[true, true, true, false, false, true, true, false, false, false, false] rfl rfl (by kernel_rfl) (fun _ _ _ h => h) (Or.inl ⟨by rfl, ?_⟩) ?_ ?_
          rotate_left
          · intro w'
            go_simp
            with_reducible rfl
          rotate_left
          · simp only [Act.put, List.setIfInBounds_toArray, List.set_cons_zero, List.set_cons_succ, i64_w, i32_w]
            rfl
          refine pure_ (i := 7) (N := some 60) (v := ?_) (a' := ?_) #[true, true, true, false, false, true, true, true, false, false, false] rfl rfl (by kernel_rfl) (fun _ _ _ h => h) (Or.inl ⟨by rfl, ?_⟩) ?_ ?_
          rotate_left
          · intro w'
            go_simp
            with_reducible rfl
          rotate_left
          · simp only [Act.put, List.setIfInBounds_toArray, List.set_cons_zero, List.set_cons_succ, i64_w, i32_w]
            rfl
          refine take_ (i := 3) (N := some 56) (v := ?_) (a' := ?_) #[true, true, true, true, false, true, true, true, false, false, false] rfl rfl (by kernel_rfl) (fun _ _ _ h => h) (Or.inl ⟨by rfl, ?_⟩) hHeld ?_ ?_
          rotate_left
          · rintro w' ⟨s0, s1, s2, s3⟩
            go_simp
            with_reducible rfl
          rotate_left
          · simp only [Act.put, List.setIfInBounds_toArray, List.set_cons_zero, List.set_cons_succ, i64_w, i32_w]
            rfl
          refine take_ (i := 4) (N := some 57) (v := ?_) (a' := ?_) #[true, true, true, true, true, true, true, true, false, false, false] rfl rfl (by kernel_rfl) (fun _ _ _ h => h) (Or.inl ⟨by rfl, ?_⟩) hHeld ?_ ?_
          rotate_left
          · rintro w' ⟨s0, s1, s2, s3⟩
            go_simp
            with_reducible rfl
          rotate_left
          · simp only [Act.put, List.setIfInBounds_toArray, List.set_cons_zero, List.set_cons_succ, i64_w, i32_w]
            rfl
          refine take_ (i := 8) (N := some 61) (v := ?_) (a' := ?_) #[true, true, true, true, true, true, true, true, true, false, false] rfl rfl (by kernel_rfl) (fun _ _ _ h => h) (Or.inl ⟨by rfl, ?_⟩) hHeld ?_ ?_
          rotate_left
          · rintro w' ⟨s0, s1, s2, s3⟩
            go_simp
            with_reducible rfl
          rotate_left
          · simp only [Act.put, List.setIfInBounds_toArray, List.set_cons_zero, List.set_cons_succ, i64_w, i32_w]
            rfl
          refine take_ (i := 9) (N := some 62) (v := ?_) (a' := ?_) #[true, true, true, true, true, true, true, true, true, true, false] rfl rfl (by kernel_rfl) (fun _ _ _ h => h) (Or.inl ⟨by rfl, ?_⟩) hHeld ?_ ?_
          rotate_left
          · rintro w' ⟨s0, s1, s2, s3⟩
            go_simp
            with_reducible rfl
          rotate_left
          · simp only [Act.put, List.setIfInBounds_toArray, List.set_cons_zero, List.set_cons_succ, i64_w, i32_w]
            rfl
          refine pure_ (i := 10) (N := some 63) (v := ?_) (a' := ?_) #[true, true, true, true, true, true, true, true, true, true, true] rfl rfl (by kernel_rfl) (fun _ _ _ h => h) (Or.inl ⟨by rfl, ?_⟩) ?_ ?_
          rotate_left
          · intro w'
            go_simp
            with_reducible rfl
          rotate_left
          · simp only [Act.put, List.setIfInBounds_toArray, List.set_cons_zero, List.set_cons_succ, i64_w, i32_w]
            rfl
          refine done_ (by kernel_rfl) ?_
          go_wp2_with fail
          have hx2 : xs2[k2]? = some x := by rw [HX.out.2 k2 (Nat.le_refl _)]; exact hx.out
          go_loopw [69] (fun i wr2 => ∃ (j : Nat) (y : List Int), j ≤ n0 ∧ i = .int .i64 j ∧ Aside0 (y.length = n0) ∧
            Aside0 (Hw w wr2 (row KHdr 22 (.slice (some bd) k c1) hs * (rowsHP (Kd.int .u8) 5 hs (xs2.set k2 y) * (disk p bs 0 room * HP.emp))))) (fun i _ => n0 - (intOf i).toNat)
          case atStart => exact ⟨0, x, Nat.zero_le _, rfl, ⟨N0.out.symm⟩, ⟨by rw [set_self xs2 k2 x hx2]; exact HW.out.drew⟩⟩
          case round =>
            obtain ⟨j, y, hj, rfl, HY, HW2⟩ := hrel
            have hks : k2 < xs2.length := (List.getElem?_eq_some_iff.1 hx2).1
            have HKS := Aside0.mk hks
            clear hx2 hks cA cB hcell hcellB
            by_cases hlj : j < n0
            · obtain ⟨bd2, B2, cc2, R2, e3, _, hcell2, hcB2, _, HB2, HK2⟩ := rows_at HW2.out k2 n0 y (by rw [List.getElem?_set_self HKS.out]) HY.out
              injection e3 with e3
              subst e3
              have hyl := HY.out
              obtain ⟨v, hv⟩ : ∃ v, y[j]? = some v := ⟨_, List.getElem?_eq_getElem (by omega)⟩
              obtain ⟨ad3, e4, hc3, hf3, HP3⟩ := row_at HB2.out j v hv
              subst e4
              have HYL := Aside0.mk hyl
              clear hyl hv
              go_wp2_with fail
              go_roundw
              case rel =>
                have hh := fun z => HK2.out _ _ (HP3.out z)
                simp only [List.set_set] at hh
                refine ⟨j + 1, _, ?_, ?_, ?_, ⟨hh _⟩⟩
                · omega
                · go_num
                · exact ⟨by rw [List.length_set]; exact HYL.out⟩
              case measure => simp [intOf]; omega
            · go_wp2_with fail
              go_roundw
              case rel => exact ⟨k2 + 1, xs2.set k2 y, by omega, by go_num, ⟨by rw [List.length_set]; exact HX.out.1, fun j hj => by rw [List.getElem?_set_ne (by omega)]; exact HX.out.2 j (by omega)⟩, ⟨HW2.out⟩⟩
              case measure => simp [intOf]; omega
        · have H5 := Aside0.mk (HW.out.as (Q := disk p bs 0 room * (row KHdr 22 (.slice A1 k c1) hs * (rowsHP (Kd.int .u8) 5 hs xs2 * HP.emp))) (by ac_rfl))
          clear HW HX
          rcases HC.out with ⟨e1, e2, h3⟩ | ⟨e1, e2, h3⟩
          · subst e1
            subst e2
            have hsz := SZ.out
            have hsr : (sa.size : Int) ≤ room := by omega
            clear hsz
            have hfl : parts.flatten.length = sa.size := by rw [SZ.out, flat_length]
            have hsm : sa.size ≤ 1048576 := by omega
            have FL := Aside0.mk hfl
            clear hfl
            go_wp2_with fail
            refine (bytes_n p parts.flatten 0 room sa.size FL.out (by omega) H5.out).mono ?_
            rintro e w6 ⟨A4, c4, rfl, hc4, h6⟩
            have hs6 := h6.row_string Try.underlying22 Try.underlying5 Try.underlying9
            rw [← SA.out] at hs6
            have H6 := Aside0.mk h6
            clear h6 H5
            go_wp2_with fail
            clear hs6
            go_loopw [110] (fun i wr2 => ∃ (j : Nat) (y : List Int), j ≤ sa.size ∧ i = .int .i64 j ∧ Aside0 (y.length = sa.size) ∧
              Aside0 (Hw w wr2 (row (Kd.int .u8) 5 (.slice A4 sa.size c4) y * (disk p parts.flatten 0 room * (row KHdr 22 (.slice A1 k c1) hs * (rowsHP (Kd.int .u8) 5 hs xs2 * HP.emp)))))) (fun i _ => sa.size - (intOf i).toNat)
            case atStart => exact ⟨0, parts.flatten, Nat.zero_le _, rfl, ⟨FL.out⟩, ⟨by first | exact H6.out | exact H6.out.drew | exact H6.out.drewN _⟩⟩
            case round =>
              obtain ⟨j, y, hj, rfl, HY, HW2⟩ := hrel
              clear H6
              by_cases hlj : j < sa.size
              · have hyl := HY.out
                obtain ⟨v, hv⟩ : ∃ v, y[j]? = some v := ⟨_, List.getElem?_eq_getElem (by omega)⟩
                obtain ⟨ad3, e4, hc3, hf3, HP3⟩ := row_at HW2.out j v hv
                subst e4
                have HYL := Aside0.mk hyl
                clear hyl hv
                go_wp2_with fail
                go_roundw
                case rel =>
                  have hh := fun z => HP3.out z
                  refine ⟨j + 1, _, ?_, ?_, ?_, ⟨hh _⟩⟩
                  · omega
                  · go_num
                  · exact ⟨by rw [List.length_set]; exact HYL.out⟩
                case measure => simp [intOf]; omega
              · have H7 := Aside0.mk HW2.out.right
                clear HW2
                go_wp2_with fail
                refine (bytes_n p parts.flatten 0 room sa.size FL.out (by omega) H7.out).mono ?_
                rintro e w7 ⟨A5, c5, rfl, hc5, h7⟩
                have hs7 := h7.row_string Try.underlying22 Try.underlying5 Try.underlying9
                rw [← SA.out] at hs7
                have b7 := h7.below
                clear h7 H7
                go_wp2_with fail
                go_ret
                exact ⟨rfl, b7⟩
          · subst e1
            subst e2
            have hsz := SZ.out
            have hsr : room < (sa.size : Int) := by omega
            clear hsz
            go_wp2_with fail
            refine (size_k p [] 0 room 0 rfl H5.out).mono ?_
            rintro e w6 ⟨rfl, hd⟩
            have b6 := (H5.out.drawn hd).below
            clear hd H5
            go_wp2_with fail
            go_ret
            exact ⟨rfl, b6⟩
set_option maxHeartbeats 3200000 in
set_option maxRecDepth 100000 in
theorem diskParts_bad (room : Int) (A : Option Addr) (n ca : Nat) (w : World) (hr : room < 0 ∨ 1048576 < room) :
    Calls Try.prog 4 #[.slice A n ca, .int .i64 room] w fun e w' => e = .returned (.bool true) ∧ Below w.heap.size w w' := by
  go_enter Try.func4, Try.ntmps4
  go_wp2_with fail
  refine (awake_ok (Hw.start w)).mono ?_
  rintro e w1 ⟨rfl, h1⟩
  have H1 := Aside0.mk h1
  clear h1
  go_wp2_with fail
  refine (new_bad room hr).mono ?_
  rintro e w2 ⟨rfl, rfl⟩
  go_wp2_with fail
  refine (refWrong_bad room _ hr).mono ?_
  rintro e w3 ⟨rfl, hd⟩
  have H3 := Aside0.mk (H1.out.drawn hd)
  clear hd H1
  go_wp2_with fail
  go_ret
  exact ⟨rfl, H3.out.below⟩
theorem bulk_parts : ∀ parts : List (List Int), (parts.map fun xs => (xs.map fun _ => 1).sum + 1).sum = total parts + parts.length
  | [] => rfl
  | x :: xs => by
    have h1 : ∀ l : List Int, (l.map fun _ => 1).sum = l.length := fun l => by induction l with | nil => rfl | cons a l ih => simp only [List.map_cons, List.sum_cons, List.length_cons, ih]; omega
    have := bulk_parts xs
    simp only [List.map_cons, List.sum_cons, List.length_cons, total, h1] at this ⊢
    omega
theorem diskPartsUpto_walk (A : Option Addr) (ca : Nat) (parts : List (List Int)) (room : Int) (w : World) (hA : (Kd.slice 5 (Kd.int .u8)).C w A parts.length parts) (hca : parts.length ≤ ca)
    (sa : parts.length * 24 ≤ 140737488351232 ∧ ∀ x ∈ parts, x.length * 1 ≤ 140737488351232 ∧ ∀ y ∈ x, (Lit.int .u8 y).wf = true) (_ : (Lit.int .i64 room).wf = true)
    (hB : (parts.map fun xs => (xs.map fun _ => 1).sum + 1).sum + 1 ≤ 1048576) :
    Calls Try.prog 4 #[.slice A parts.length ca, .int .i64 room] w fun e w' => e = .returned (.bool true) ∧ Below w.heap.size w w' := by
  rw [bulk_parts] at hB
  by_cases hr : room < 0 ∨ 1048576 < room
  · exact diskParts_bad room A parts.length ca w hr
  · exact diskParts_ok room A parts parts.length ca w hA hca (by omega) (by omega) (by omega)
end Go.Proofs.Ytacnogbdifgmeaa
