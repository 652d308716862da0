/- NetAll's walk. -/
import Derived.Test.YtehbchggekbkkaaNetAllL
set_option linter.unusedVariables false
set_option linter.unusedSimpArgs false
namespace Go.Proofs.Ytehbchggekbkkaa
open Go.RowKit Go.Maps Go.ChangeMaps Go.WideMaps Go.Proofs.YtehbchggekbkkaaW.PrintWords Go.Proofs.YtehbchggekbkkaaW.PrintLast
abbrev mapN (mb : Nat) (g : Lit → Option Value) (c : Nat) : HP := mapHP Try.prog 9 mb g c
theorem net_key (s : ByteArray) : Lit.string s.data.toList = kOf (numsOf s) := by unfold kOf; rw [strOf_numsOf]
set_option maxHeartbeats 6400000 in
set_option maxRecDepth 100000 in
theorem netAll_ok (A B : Option Addr) (n m ca cb : Nat) (ts : List ByteArray) (picks : List Int) (bit : Int) (w : World) (hA : Kd.string.C w A n ts) (hB : (Kd.int .i64).C w B m picks) (hn : n ≤ 4096) (hsz : ∀ s ∈ ts, s.size ≤ 140737488351232)
    (hpk : ∀ x ∈ picks, -9223372036854775808 ≤ x ∧ x ≤ 9223372036854775807) (hb1 : -9223372036854775808 ≤ bit) (hb2 : bit ≤ 9223372036854775807) :
    Calls Try.prog 3 #[.slice A n ca, .slice B m cb, .int .i64 bit] w fun e w' => e = .returned (.bool true) ∧ Below w.heap.size w w' := by
  have HA := Aside0.mk hA
  have HB := Aside0.mk hB
  have hm := hB.2.1
  have SZ := Aside0.mk hsz
  have PK := Aside0.mk hpk
  have d1 : decide ((4096 : Int) < n) = false := decide_eq_false (by omega)
  have d2 : decide (4096 < n) = false := decide_eq_false (by omega)
  have hmm := @run_makeMap Try.prog
  have kb := fun (w : World) (s : ByteArray) => Lib.run_convert_string_bytes (P := Try.prog) w 9 31 5 s Try.underlying9 Try.underlying31 Try.underlying5
  have KB := Aside0.mk kb
  clear hA hB hsz hpk kb
  go_enter Try.func3, Try.ntmps3
  go_wp2_with fail
  refine (nawake_ok (Hw.start w)).mono ?_
  rintro e w1 ⟨rfl, h1⟩
  have H1 := Aside0.mk h1
  clear h1
  go_wp2_with fail
  refine (nnew_ok 2 (by omega) (by omega) H1.out).mono ?_
  rintro e w2 ⟨p, rfl, h2⟩
  obtain ⟨mb, hmb⟩ : ∃ mb, mb = w2.heap.size := ⟨_, rfl⟩
  have H3 := Aside0.mk (map_made (P := Try.prog) (k := 9) h2)
  rw [← hmb] at H3
  clear h2 H1
  go_wp2_with fail
  rw [← hmb]
  clear hmb hmm d1 d2
  go_loopw [38] (fun i wr => ∃ (k c : Nat) (g : Lit → Option Value) (ps : List Pkt), k ≤ n ∧ c ≤ k ∧ i = .int .i64 k ∧ Aside0 (ps.length = k) ∧ Aside0 (Good ps) ∧ Aside0 (MI g ps) ∧ Aside0 (Hw w wr (net p 2 ps * (mapN mb g c * HP.emp)))) (fun i _ => n - (intOf i).toNat)
  case atStart => exact ⟨0, 0, noF, [], Nat.zero_le _, Nat.le_refl _, rfl, ⟨rfl⟩, ⟨fun p hp => by simp at hp⟩, ⟨MI_start⟩, ⟨H3.out.at (net p 2 [])⟩⟩
  case round =>
    obtain ⟨k, c, g, ps, hk, hc, rfl, HL, HG, HI, HW⟩ := hrel
    clear H3
    by_cases hlt : k < n
    · obtain ⟨ad, s, rfl, hcell, hs⟩ := C_scalar_at (enc := Value.string) (h1 := fun _ => rfl) (Kd.C_below HA.out HW.out.below) k hlt
      have hss := SZ.out s (List.mem_of_getElem? hs.out)
      have hkb := KB.out wr s
      obtain ⟨hb, hbC⟩ := tx_bytes 5 s (by omega) HW.out
      have HBW := Aside0.mk hb
      have HBC := Aside0.mk hbC
      clear hb hbC hs
      go_wp2_with fail
      have hf2 : 0 ≤ (k : Int) % 2 ∧ (k : Int) % 2 < 2 := by omega
      refine (nsend_ok p 2 ps ((k : Int) % 2) (1 - (k : Int) % 2) _ s.size _ (numsOf s) hf2.1 hf2.2 (by omega) (by omega) (by rw [HL.out]; omega) (grownCap_ge _ _ _ _) (by omega) HBW.out HBC.out).mono ?_
      rintro e w4 ⟨rfl, h4⟩
      have H4 := Aside0.mk (h4.at (mapN mb g c))
      obtain ⟨cn, hcn⟩ : ∃ cn, cn = cntK (kOf (numsOf s)) ps := ⟨_, rfl⟩
      have hcl : cn ≤ 4096 := by have := cntK_le (kOf (numsOf s)) ps; rw [HL.out] at this; omega
      have hkey := keyOf_string_mk (P := Try.prog) Try.underlying9 (s := s) (by unfold maxLen; omega)
      have hlook := map_look H4.out (string_keyed Try.underlying9) Try.underlying29 (Try.zeroValue3 _) hkey
      rw [net_key, HI.out (kOf (numsOf s)), ← hcn] at hlook
      obtain ⟨w5, hput, h5⟩ := map_put H4.out (string_keyed Try.underlying9) Try.underlying29 (by unfold maxLen; omega) (.int .i64 ((cn : Int) + 1)) hkey
      rw [net_key] at h5
      have hI2 := MI_put HI.out ((k : Int) % 2) (1 - (k : Int) % 2) (numsOf s)
      rw [← hcn] at hI2
      have hG2 := Good_snoc HG.out ((k : Int) % 2) (1 - (k : Int) % 2) (numsOf s) (by omega) (numsOf_bytes s) (by rw [numsOf_len]; exact hss)
      obtain ⟨c2, hc2, h6⟩ : ∃ c2, c2 ≤ k + 1 ∧ Hw w w5 (mapN mb (putF g (kOf (numsOf s)) (.int .i64 ((cn : Int) + 1))) c2 * (net p 2 (ps ++ [((k : Int) % 2, 1 - (k : Int) % 2, numsOf s)]) * HP.emp)) := by
        refine ⟨_, ?_, h5⟩
        split <;> omega
      have H6 := Aside0.mk (h6.as (Q := net p 2 (ps ++ [((k : Int) % 2, 1 - (k : Int) % 2, numsOf s)]) * (mapN mb (putF g (kOf (numsOf s)) (.int .i64 ((cn : Int) + 1))) c2 * HP.emp)) (by ac_rfl))
      have HI2 := Aside0.mk hI2
      have HG2 := Aside0.mk hG2
      clear h4 h5 h6 hI2 hG2 hkey hcn H4 HW HBW HBC hkb hf2
      go_wp2_with fail
      go_roundw
      case rel => exact ⟨k + 1, c2, _, _, by omega, hc2, by go_num, ⟨by rw [List.length_append, HL.out]; rfl⟩, HG2, HI2, H6⟩
      case measure => simp [intOf]; omega
    · have hkn : k = n := by omega
      subst hkn
      clear hlt
      go_wp2_with fail
      go_loopg [12] k (fun q v12 wr => ∃ (i c : Nat) (g : Lit → Option Value) (ps : List Pkt), i + q = k ∧ c ≤ k ∧ v12 = .int .i64 i ∧ Aside0 (ps.length = q) ∧ Aside0 (Good ps) ∧ Aside0 (MI g ps) ∧ Aside0 (Hw w wr (net p 2 ps * (mapN mb g c * HP.emp))))
      case atStart => exact ⟨0, c, g, ps, by omega, by omega, rfl, HL, HG, HI, HW⟩
      case round =>
        obtain ⟨i, c, g, ps, hik, hc, rfl, HL, HG, HI, HW⟩ := hrel
        have hq4 : gk ≤ 4096 := by omega
        by_cases hq0 : gk = 0
        · subst hq0
          have hps : ps = [] := List.eq_nil_of_length_eq_zero HL.out
          subst hps
          go_wp2_with fail
          refine (nlen_ok p 2 [] 0 rfl HW.out).mono ?_
          rintro e w3 ⟨rfl, rfl⟩
          obtain ⟨D, hown, hview⟩ := map_own (HW.out.at (mapN mb g c))
          have HO := Aside0.mk hown
          have HV := Aside0.mk hview
          clear hown hview
          go_wp2_with (at_range; refine wpList_range_own _ rfl _ 29 rfl 9 3 (string_keyed Try.underlying9) Try.underlying29 valR mb c D rfl HO.out ?_; intro w4 hrg4 hg4 hs4; have HR4 := Aside0.mk hrg4; have HG4 := Aside0.mk hg4; clear hrg4 hg4 hs4)
          go_frame
          go_loopw [17] (fun _ wr => ∃ (left : Lit → Bool) (cnt : Nat), Aside0 (wr.ranges Try.prog 9 valR mb w3.heap.size c D left cnt) ∧ Aside0 (w3.grownBy wr none)) (fun _ wr => wr.rangeLeft mb w3.heap.size)
          case atStart => exact ⟨_, _, HR4, HG4⟩
          case round =>
            obtain ⟨left, cnt, HRG, HGR⟩ := hrel
            clear HR4 HG4
            go_wp2_with (at_next; refine wpList_next_ranges _ rfl _ rfl 9 (string_keyed Try.underlying9) valR Value.string id (fun key kl hkey => (by obtain ⟨s, e1, _⟩ := string_of_keyOf Try.underlying9 hkey; exact ⟨s, e1⟩)) (fun v y _ => ⟨v, rfl⟩) mb w3.heap.size c D left cnt rfl HRG.out ?_ ?_)
            -- REST
            · intro _ _
              have H5 := Aside0.mk ((HW.out.grown HGR.out).at (net p 2 []))
              clear HRG HGR HW HO HV
              go_wp2_with fail
              refine (ndeliver_bad p 2 [] 0 (by simp) H5.out).mono ?_
              rintro e w5 ⟨rfl, h5⟩
              have H6 := Aside0.mk h5
              clear h5 H5
              go_wp2_with fail
              go_ret
              exact ⟨rfl, (H6.out.alloc _).below⟩
            · intro x c1 kl a b w' cnt' hkey hlk hR hat hrg' hlt' hgr hsz' hen
              have ha : a = .held c1 := by
                simp only [valR, Option.some.injEq, Prod.mk.injEq] at hR
                exact hR.1.symm
              have hv := MI_end HI.out kl c1 (HV.out.entry kl c1 (fun zd => by rw [hat zd, ha]))
              subst hv
              have R1 := Aside0.mk hrg'
              have R2 := Aside0.mk (grown_trans HGR.out hgr (Nat.le_refl _))
              have R3 := Aside0.mk hlt'
              clear hkey hlk hR hat hrg' hgr hsz' ha hlt'
              go_wp2_with fail
              go_roundw
              case rel => exact ⟨_, _, R1, R2⟩
              case measure =>
                rw [R1.out.left_eq, HRG.out.left_eq]
                exact R3.out
        · skip
          have hq1 : 0 < gk := by omega
          have dq : decide ((0 : Int) < gk) = true := decide_eq_true (by omega)
          have dq' : decide (0 < gk) = true := decide_eq_true hq1
          go_wp2_with fail
          refine (nlen_ok p 2 ps gk HL.out HW.out).mono ?_
          rintro e w3 ⟨rfl, rfl⟩
          clear dq dq'
          by_cases hi : i < m
          · have d1 : decide (i < m) = true := decide_eq_true hi
            obtain ⟨ad, x, rfl, hcell, hx⟩ := C_scalar_at (enc := Value.int .i64) (h1 := fun _ => rfl) (Kd.C_below HB.out HW.out.below) i hi
            have hxr := PK.out x (List.mem_of_getElem? hx.out)
            have hi0 : (0 : Int) ≤ i := by omega
            have hi1 : (i : Int) < m := by omega
            by_cases hx0 : 0 ≤ x
            · have d2 : decide (0 ≤ x) = true := decide_eq_true hx0
              by_cases hxq : x < gk
              · have d3 : decide (x < (gk : Int)) = true := decide_eq_true hxq
                go_upto_region 18 with fail
                refine start_ (n := 20) (S := fun w' => w'.cell? (ad.add i) = some (.int .i64 x)) (ds := []) #[false, false, false, false, false, false, false, false, false, false, false, false, false, false, false, false, false, false, false, false] (by kernel_rfl) rfl rfl (hcell) (fun hHeld => ?_)
                refine pure_ (i := 0) (N := some 64) (v := ?_) (a' := ?_) #[true, false, false, false, false, false, false, false, false, false, false, false, false, false, false, false, false, false, false, false] rfl rfl (by kernel_rfl) (fun _ _ _ h => h) (Or.inl ⟨by rfl, ?_⟩) ?_ ?_
                rotate_left
                · intro w'
                  go_simp
                  with_reducible rfl
                rotate_left
                · simp only [Act.put, List.setIfInBounds_toArray, List.set_cons_zero, List.set_cons_succ, i64_w, i32_w]
                  rfl
                refine pure_ (i := 1) (N := some 65) (v := ?_) (a' := ?_) #[true, true, false, false, false, false, false, false, false, false, false, false, false, false, false, false, false, false, false, false] rfl rfl (by kernel_rfl) (fun _ _ _ h => h) (Or.inl ⟨by rfl, ?_⟩) ?_ ?_
                rotate_left
                · intro w'
                  go_simp
                  with_reducible rfl
                rotate_left
                · simp only [Act.put, List.setIfInBounds_toArray, List.set_cons_zero, List.set_cons_succ, i64_w, i32_w]
                  rfl
                refine pure_ (i := 2) (N := some 66) (v := ?_) (a' := ?_) #[true, true, true, false, false, false, false, false, false, false, false, false, false, false, false, false, false, false, false, false] rfl rfl (by kernel_rfl) (fun _ _ _ h => h) (Or.inl ⟨by rfl, ?_⟩) ?_ ?_
                rotate_left
                · intro w'
                  go_simp
                  with_reducible rfl
                rotate_left
                · simp only [Act.put, List.setIfInBounds_toArray, List.set_cons_zero, List.set_cons_succ, i64_w, i32_w]
                  rfl
                refine pure_ (i := 3) (N := some 67) (v := ?_) (a' := ?_) #[true, true, true, true, false, false, false, false, false, false, false, false, false, false, false, false, false, false, false, false] rfl rfl (by kernel_rfl) (fun _ _ _ h => h) (Or.inl ⟨by rfl, ?_⟩) ?_ ?_
                rotate_left
                · intro w'
                  go_simp
                  with_reducible rfl
                rotate_left
                · simp only [Act.put, List.setIfInBounds_toArray, List.set_cons_zero, List.set_cons_succ, i64_w, i32_w]
                  rfl
                refine pure_ (i := 4) (N := some 68) (v := ?_) (a' := ?_) #[true, true, true, true, true, false, false, false, false, false, false, false, false, false, false, false, false, false, false, false] rfl rfl (by kernel_rfl) (fun _ _ _ h => h) (Or.inl ⟨by rfl, ?_⟩) ?_ ?_
                rotate_left
                · intro w'
                  go_simp
                  with_reducible rfl
                rotate_left
                · simp only [Act.put, List.setIfInBounds_toArray, List.set_cons_zero, List.set_cons_succ, i64_w, i32_w]
                  rfl
                refine pure_ (i := 5) (N := some 69) (v := ?_) (a' := ?_) #[true, true, true, true, true, true, false, false, false, false, false, false, false, false, false, false, false, false, false, false] rfl rfl (by kernel_rfl) (fun _ _ _ h => h) (Or.inl ⟨by rfl, ?_⟩) ?_ ?_
                rotate_left
                · intro w'
                  go_simp
                  with_reducible rfl
                rotate_left
                · simp only [Act.put, List.setIfInBounds_toArray, List.set_cons_zero, List.set_cons_succ, i64_w, i32_w]
                  rfl
                refine pure_ (i := 6) (N := some 70) (v := ?_) (a' := ?_) #[true, true, true, true, true, true, true, false, false, false, false, false, false, false, false, false, false, false, false, false] rfl rfl (by kernel_rfl) (fun _ _ _ h => h) (Or.inl ⟨by rfl, ?_⟩) ?_ ?_
                rotate_left
                · intro w'
                  go_simp
                  with_reducible rfl
                rotate_left
                · simp only [Act.put, List.setIfInBounds_toArray, List.set_cons_zero, List.set_cons_succ, i64_w, i32_w]
                  rfl
                refine pure_ (i := 7) (N := some 71) (v := ?_) (a' := ?_) #[true, true, true, true, true, true, true, true, false, false, false, false, false, false, false, false, false, false, false, false] rfl rfl (by kernel_rfl) (fun _ _ _ h => h) (Or.inl ⟨by rfl, ?_⟩) ?_ ?_
                rotate_left
                · intro w'
                  go_simp
                  with_reducible rfl
                rotate_left
                · simp only [Act.put, List.setIfInBounds_toArray, List.set_cons_zero, List.set_cons_succ, i64_w, i32_w]
                  rfl
                refine take_ (i := 8) (N := some 72) (v := ?_) (a' := ?_) #[true, true, true, true, true, true, true, true, true, false, false, false, false, false, false, false, false, false, false, false] rfl rfl (by kernel_rfl) (fun _ _ _ h => h) (Or.inl ⟨by rfl, ?_⟩) hHeld ?_ ?_
                rotate_left
                · intro w' s0
                  go_simp
                  with_reducible rfl
                rotate_left
                · simp only [Act.put, List.setIfInBounds_toArray, List.set_cons_zero, List.set_cons_succ, i64_w, i32_w]
                  rfl
                refine pure_ (i := 9) (N := some 73) (v := ?_) (a' := ?_) #[true, true, true, true, true, true, true, true, true, true, false, false, false, false, false, false, false, false, false, false] rfl rfl (by kernel_rfl) (fun _ _ _ h => h) (Or.inl ⟨by rfl, ?_⟩) ?_ ?_
                rotate_left
                · intro w'
                  go_simp
                  with_reducible rfl
                rotate_left
                · simp only [Act.put, List.setIfInBounds_toArray, List.set_cons_zero, List.set_cons_succ, i64_w, i32_w]
                  rfl
                refine pure_ (i := 10) (N := some 74) (v := ?_) (a' := ?_) #[true, true, true, true, true, true, true, true, true, true, true, false, false, false, false, false, false, false, false, false] rfl rfl (by kernel_rfl) (fun _ _ _ h => h) (Or.inl ⟨by rfl, ?_⟩) ?_ ?_
                rotate_left
                · intro w'
                  go_simp
                  with_reducible rfl
                rotate_left
                · simp only [Act.put, List.setIfInBounds_toArray, List.set_cons_zero, List.set_cons_succ, i64_w, i32_w]
                  rfl
                refine pure_ (i := 11) (N := some 75) (v := ?_) (a' := ?_) #[true, true, true, true, true, true, true, true, true, true, true, true, false, false, false, false, false, false, false, false] rfl rfl (by kernel_rfl) (fun _ _ _ h => h) (Or.inl ⟨by rfl, ?_⟩) ?_ ?_
                rotate_left
                · intro w'
                  go_simp
                  with_reducible rfl
                rotate_left
                · simp only [Act.put, List.setIfInBounds_toArray, List.set_cons_zero, List.set_cons_succ, i64_w, i32_w]
                  rfl
                refine pure_ (i := 12) (N := some 76) (v := ?_) (a' := ?_) #[true, true, true, true, true, true, true, true, true, true, true, true, true, false, false, false, false, false, false, false] rfl rfl (by kernel_rfl) (fun _ _ _ h => h) (Or.inl ⟨by rfl, ?_⟩) ?_ ?_
                rotate_left
                · intro w'
                  go_simp
                  with_reducible rfl
                rotate_left
                · simp only [Act.put, List.setIfInBounds_toArray, List.set_cons_zero, List.set_cons_succ, i64_w, i32_w]
                  rfl
                refine pure_ (i := 13) (N := some 77) (v := ?_) (a' := ?_) #[true, true, true, true, true, true, true, true, true, true, true, true, true, true, false, false, false, false, false, false] rfl rfl (by kernel_rfl) (fun _ _ _ h => h) (Or.inl ⟨by rfl, ?_⟩) ?_ ?_
                rotate_left
                · intro w'
                  go_simp
                  with_reducible rfl
                rotate_left
                · simp only [Act.put, List.setIfInBounds_toArray, List.set_cons_zero, List.set_cons_succ, i64_w, i32_w]
                  rfl
                refine pure_ (i := 14) (N := some 78) (v := ?_) (a' := ?_) #[true, true, true, true, true, true, true, true, true, true, true, true, true, true, true, false, false, false, false, false] rfl rfl (by kernel_rfl) (fun _ _ _ h => h) (Or.inl ⟨by rfl, ?_⟩) ?_ ?_
                rotate_left
                · intro w'
                  go_simp
                  with_reducible rfl
                rotate_left
                · simp only [Act.put, List.setIfInBounds_toArray, List.set_cons_zero, List.set_cons_succ, i64_w, i32_w]
                  rfl
                refine pure_ (i := 16) (N := some 80) (v := ?_) (a' := ?_) #[true, true, true, true, true, true, true, true, true, true, true, true, true, true, true, false, true, false, false, false] rfl rfl (by kernel_rfl) (fun _ _ _ h => h) (Or.inl ⟨by rfl, ?_⟩) ?_ ?_
                rotate_left
                · intro w'
                  go_simp
                  with_reducible rfl
                rotate_left
                · simp only [Act.put, List.setIfInBounds_toArray, List.set_cons_zero, List.set_cons_succ, i64_w, i32_w]
                  rfl
                refine take_ (i := 15) (N := some 79) (v := ?_) (a' := ?_) #[true, true, true, true, true, true, true, true, true, true, true, true, true, true, true, true, true, false, false, false] rfl rfl (by kernel_rfl) (fun _ _ _ h => h) (Or.inl ⟨by rfl, ?_⟩) hHeld ?_ ?_
                rotate_left
                · intro w' s0
                  go_simp
                  with_reducible rfl
                rotate_left
                · simp only [Act.put, List.setIfInBounds_toArray, List.set_cons_zero, List.set_cons_succ, i64_w, i32_w]
                  rfl
                refine one_ (i := 17) (N := some 81) #[true, true, true, true, true, true, true, true, true, true, true, true, true, true, true, true, true, true, false, false] rfl rfl (by kernel_rfl) (by decide) (fun K hK => ?_)
                refine goes_ Try.func18 (by kernel_rfl) rfl #[.pointer (some ⟨p, 0, none⟩)] (by rfl) rfl rfl (by simp only [List.map_toArray, List.map_cons, List.map_nil]; rfl) ?_
                with_reducible refine (nlen_ok p 2 ps gk HL.out HW.out.drew).mono ?_
                rintro e w4 ⟨rfl, rfl⟩
                refine ⟨_, rfl, ?_⟩
                refine hK.out _ _ (hcell) (fun hHeld => ?_)
                clear hK K
                refine norm_ (a' := ?_) ?_ ?_
                rotate_left
                · show Act.put _ (some 81) _ = _
                  simp only [Act.put, List.setIfInBounds_toArray, List.set_cons_zero, List.set_cons_succ, i64_w, i32_w]
                  rfl
                refine pure_ (i := 18) (N := some 82) (v := ?_) (a' := ?_) #[true, true, true, true, true, true, true, true, true, true, true, true, true, true, true, true, true, true, true, false] rfl rfl (by kernel_rfl) (fun _ _ _ h => h) (Or.inl ⟨by rfl, ?_⟩) ?_ ?_
                rotate_left
                · intro w'
                  go_simp
                  with_reducible rfl
                rotate_left
                · simp only [Act.put, List.setIfInBounds_toArray, List.set_cons_zero, List.set_cons_succ, i64_w, i32_w]
                  rfl
                refine pure_ (i := 19) (N := some 83) (v := ?_) (a' := ?_) #[true, true, true, true, true, true, true, true, true, true, true, true, true, true, true, true, true, true, true, true] rfl rfl (by kernel_rfl) (fun _ _ _ h => h) (Or.inl ⟨by rfl, ?_⟩) ?_ ?_
                rotate_left
                · intro w'
                  go_simp
                  with_reducible rfl
                rotate_left
                · simp only [Act.put, List.setIfInBounds_toArray, List.set_cons_zero, List.set_cons_succ, i64_w, i32_w]
                  rfl
                refine done_ (by kernel_rfl) ?_
                clear hHeld d1 d2 d3
                obtain ⟨j, rfl⟩ : ∃ j : Nat, x = j := ⟨x.toNat, by omega⟩
                have hjq : j < gk := by omega
                have HW := Aside0.mk HW.out.drew
                clear hxq hx0 hxr
                obtain ⟨⟨f, t, xs⟩, hpj⟩ : ∃ pk, ps[j]? = some pk := ⟨_, List.getElem?_eq_getElem (by rw [HL.out]; exact hjq)⟩
                have hgood := HG.out _ (List.mem_of_getElem? hpj)
                have hxb : bytes xs := hgood.2.1
                have hxl : xs.length ≤ 140737488351232 := hgood.2.2
                have hft0 : 0 ≤ f ∧ f ≤ 1 ∧ f + t = 1 := hgood.1
                have PJ := Aside0.mk hpj
                have XB := Aside0.mk hxb
                have FT := Aside0.mk hft0
                have hps4 : ps.length ≤ 4096 := by rw [HL.out]; exact hq4
                have P4 := Aside0.mk hps4
                have JL := Aside0.mk (show j < ps.length by rw [HL.out]; exact hjq)
                clear hpj hgood hxb hft0 hps4
                go_wp2_with fail
                by_cases hbit : bit < 0 ∨ (0 ≤ bit ∧ (xs.length : Int) ≤ bit / 8)
                · refine (nflip_far p 2 ps j bit f t xs JL.out PJ.out hbit hb1 hb2 P4.out HW.out).mono ?_
                  rintro e w4 ⟨rfl, rfl⟩
                  go_wp2_with fail
                  refine (ndeliver_ok p 2 ps j JL.out P4.out HW.out).mono ?_
                  rintro e w5 ⟨f', t', A', n', c', xs', rfl, hp', hn', hc', h5⟩
                  have e9 := hp'.out
                  rw [PJ.out] at e9
                  simp only [Option.some.injEq, Prod.mk.injEq] at e9
                  obtain ⟨rfl, rfl, rfl⟩ := e9
                  have hft := FT.out.2.2
                  have hf0 := FT.out.1
                  have hf1 := FT.out.2.1
                  have H6 := Aside0.mk (h5.alloc (.cells #[.int .i64 f, .int .i64 t, .slice A' n' c'] 33))
                  obtain ⟨s, hs⟩ : ∃ s, s = strOfNums xs := ⟨_, rfl⟩
                  have hcv : ∀ W F', Hw w W (row (Kd.int .u8) 5 (.slice A' n' c') xs * F') → (convert 31 9 (.slice A' n' c')).run Try.prog W = .ok (.string s) W := fun W F' hW => by rw [hs]; exact hW.row_string Try.underlying31 Try.underlying5 Try.underlying9
                  have hcv1 := hcv _ _ H6.out.right
                  have hssz : s.size ≤ maxLen := by rw [hs, tx_size]; have h := HG.out _ (List.mem_of_getElem? PJ.out); have h2 : xs.length ≤ 140737488351232 := h.2.2; unfold maxLen; omega
                  obtain ⟨cn, hcn⟩ : ∃ cn, cn = cntK (kOf xs) ps := ⟨_, rfl⟩
                  have hcl : cn ≤ 4096 := by have := cntK_le (kOf xs) ps; rw [HL.out] at this; omega
                  have hcp : 1 ≤ cn := by rw [hcn]; exact cntK_pos ps j f t xs PJ.out
                  have hkey : keyOf Try.prog 9 (.string s) = some (kOf xs) := by rw [hs]; exact keyOf_string_mk Try.underlying9 (by rw [← hs]; exact hssz)
                  have H7 := Aside0.mk ((H6.out.right.right).at (mapN mb g c))
                  have hmap := H6.out.at (mapN mb g c)
                  have hlook := map_look hmap (string_keyed Try.underlying9) Try.underlying29 (Try.zeroValue3 _) hkey
                  rw [HI.out (kOf xs), ← hcn] at hlook
                  obtain ⟨w8, hput, h8⟩ := map_put hmap (string_keyed Try.underlying9) Try.underlying29 (by unfold maxLen; omega) (.int .i64 ((cn : Int) - 1)) hkey
                  have hI2 := MI_del HI.out j f t xs PJ.out
                  rw [← hcn] at hI2
                  have hsome : (g (kOf xs)).isSome = true := by
                    have h := HI.out (kOf xs)
                    cases hg : g (kOf xs) with
                    | none => rw [hg, ← hcn] at h; simp at h; omega
                    | some v => rfl
                  rw [if_pos hsome] at h8
                  have H8 := Aside0.mk (((h8.dropB w5.heap.size).dropR (Kd.int .u8) 5 (.slice A' n' c')).at (net p 2 (ps.eraseIdx j)))
                  have HI2 := Aside0.mk hI2
                  have HG2 := Aside0.mk (Good_erase HG.out j)
                  have hel : (ps.eraseIdx j).length = gk - 1 := by rw [List.length_eraseIdx, if_pos JL.out, HL.out]
                  have EL := Aside0.mk hel
                  clear hcv hs hssz hcn hkey hmap h8 hI2 hsome hel h5 H6 H7 HW hn' hc'
                  go_wp2_with fail
                  go_roundg (gk - 1)
                  case measure => omega
                  case rel => exact ⟨i + 1, c, _, _, by omega, hc, by go_num, EL, HG2, HI2, H8⟩
                · obtain ⟨b, rfl⟩ : ∃ b : Nat, bit = b := ⟨bit.toNat, by omega⟩
                  obtain ⟨v, hv⟩ : ∃ v, xs[b / 8]? = some v := ⟨_, List.getElem?_eq_getElem (by omega)⟩
                  have hvb := XB.out v (List.mem_of_getElem? hv)
                  obtain ⟨fy1, fy2, fy3, fy4, fy5⟩ := flip8_at v (b % 8) hvb.1 hvb.2 (by omega)
                  refine (nflip_ok p 2 ps j b f t xs v JL.out PJ.out hv hvb.1 hvb.2 (by omega) P4.out HW.out).mono ?_
                  rintro e w3b ⟨rfl, h3b⟩
                  have H3b := Aside0.mk h3b
                  have V := Aside0.mk hv
                  have F3 := Aside0.mk fy3
                  have F4 := Aside0.mk fy4
                  have F5 := Aside0.mk fy5
                  have hb8 : b / 8 < xs.length := by omega
                  have B8 := Aside0.mk hb8
                  have XL := Aside0.mk hxl
                  clear h3b hv hvb fy1 fy2 fy3 fy4 fy5 hb8 hxl HW hbit
                  go_wp2_with fail
                  refine (nflip_ok p 2 _ j b f t (xs.set (b / 8) (flip8 v (b % 8))) (flip8 v (b % 8)) (by rw [List.length_set]; exact JL.out) (List.getElem?_set_self JL.out) (List.getElem?_set_self B8.out) F3.out F4.out (by rw [List.length_set]; have := XL.out; omega) (by rw [List.length_set]; exact P4.out) H3b.out).mono ?_
                  have hxx : (xs.set (b / 8) (flip8 v (b % 8))).set (b / 8) (flip8 (flip8 v (b % 8)) (b % 8)) = xs := by
                    rw [F5.out, List.set_set]
                    have := V.out
                    rw [List.getElem?_eq_getElem B8.out] at this
                    simp only [Option.some.injEq] at this
                    rw [← this, List.set_getElem_self]
                  have hpp : (ps.set j (f, t, xs.set (b / 8) (flip8 v (b % 8)))).set j (f, t, xs) = ps := by
                    rw [List.set_set]
                    have := PJ.out
                    rw [List.getElem?_eq_getElem JL.out] at this
                    simp only [Option.some.injEq] at this
                    rw [← this, List.set_getElem_self]
                  rw [hxx, hpp]
                  clear hxx hpp
                  rintro e w4 ⟨rfl, h4⟩
                  have HW := Aside0.mk h4
                  clear h4 H3b V F3 F4 F5
                  go_wp2_with fail
                  refine (ndeliver_ok p 2 ps j JL.out P4.out HW.out).mono ?_
                  rintro e w5 ⟨f', t', A', n', c', xs', rfl, hp', hn', hc', h5⟩
                  have e9 := hp'.out
                  rw [PJ.out] at e9
                  simp only [Option.some.injEq, Prod.mk.injEq] at e9
                  obtain ⟨rfl, rfl, rfl⟩ := e9
                  have hft := FT.out.2.2
                  have hf0 := FT.out.1
                  have hf1 := FT.out.2.1
                  have H6 := Aside0.mk (h5.alloc (.cells #[.int .i64 f, .int .i64 t, .slice A' n' c'] 33))
                  obtain ⟨s, hs⟩ : ∃ s, s = strOfNums xs := ⟨_, rfl⟩
                  have hcv : ∀ W F', Hw w W (row (Kd.int .u8) 5 (.slice A' n' c') xs * F') → (convert 31 9 (.slice A' n' c')).run Try.prog W = .ok (.string s) W := fun W F' hW => by rw [hs]; exact hW.row_string Try.underlying31 Try.underlying5 Try.underlying9
                  have hcv1 := hcv _ _ H6.out.right
                  have hssz : s.size ≤ maxLen := by rw [hs, tx_size]; have h := HG.out _ (List.mem_of_getElem? PJ.out); have h2 : xs.length ≤ 140737488351232 := h.2.2; unfold maxLen; omega
                  obtain ⟨cn, hcn⟩ : ∃ cn, cn = cntK (kOf xs) ps := ⟨_, rfl⟩
                  have hcl : cn ≤ 4096 := by have := cntK_le (kOf xs) ps; rw [HL.out] at this; omega
                  have hcp : 1 ≤ cn := by rw [hcn]; exact cntK_pos ps j f t xs PJ.out
                  have hkey : keyOf Try.prog 9 (.string s) = some (kOf xs) := by rw [hs]; exact keyOf_string_mk Try.underlying9 (by rw [← hs]; exact hssz)
                  have H7 := Aside0.mk ((H6.out.right.right).at (mapN mb g c))
                  have hmap := H6.out.at (mapN mb g c)
                  have hlook := map_look hmap (string_keyed Try.underlying9) Try.underlying29 (Try.zeroValue3 _) hkey
                  rw [HI.out (kOf xs), ← hcn] at hlook
                  obtain ⟨w8, hput, h8⟩ := map_put hmap (string_keyed Try.underlying9) Try.underlying29 (by unfold maxLen; omega) (.int .i64 ((cn : Int) - 1)) hkey
                  have hI2 := MI_del HI.out j f t xs PJ.out
                  rw [← hcn] at hI2
                  have hsome : (g (kOf xs)).isSome = true := by
                    have h := HI.out (kOf xs)
                    cases hg : g (kOf xs) with
                    | none => rw [hg, ← hcn] at h; simp at h; omega
                    | some v => rfl
                  rw [if_pos hsome] at h8
                  have H8 := Aside0.mk (((h8.dropB w5.heap.size).dropR (Kd.int .u8) 5 (.slice A' n' c')).at (net p 2 (ps.eraseIdx j)))
                  have HI2 := Aside0.mk hI2
                  have HG2 := Aside0.mk (Good_erase HG.out j)
                  have hel : (ps.eraseIdx j).length = gk - 1 := by rw [List.length_eraseIdx, if_pos JL.out, HL.out]
                  have EL := Aside0.mk hel
                  clear hcv hs hssz hcn hkey hmap h8 hI2 hsome hel h5 H6 H7 HW hn' hc'
                  go_wp2_with fail
                  go_roundg (gk - 1)
                  case measure => omega
                  case rel => exact ⟨i + 1, c, _, _, by omega, hc, by go_num, EL, HG2, HI2, H8⟩
              · have d3 : decide (x < (gk : Int)) = false := decide_eq_false hxq
                go_upto_region 18 with fail
                refine start_ (n := 20) (S := fun w' => w'.cell? (ad.add i) = some (.int .i64 x)) (ds := []) #[false, false, false, false, false, false, false, false, false, false, false, false, false, false, false, false, false, false, false, false] (by kernel_rfl) rfl rfl (hcell) (fun hHeld => ?_)
                refine pure_ (i := 0) (N := some 64) (v := ?_) (a' := ?_) #[true, false, false, false, false, false, false, false, false, false, false, false, false, false, false, false, false, false, false, false] rfl rfl (by kernel_rfl) (fun _ _ _ h => h) (Or.inl ⟨by rfl, ?_⟩) ?_ ?_
                rotate_left
                · intro w'
                  go_simp
                  with_reducible rfl
                rotate_left
                · simp only [Act.put, List.setIfInBounds_toArray, List.set_cons_zero, List.set_cons_succ, i64_w, i32_w]
                  rfl
                refine pure_ (i := 1) (N := some 65) (v := ?_) (a' := ?_) #[true, true, false, false, false, false, false, false, false, false, false, false, false, false, false, false, false, false, false, false] rfl rfl (by kernel_rfl) (fun _ _ _ h => h) (Or.inl ⟨by rfl, ?_⟩) ?_ ?_
                rotate_left
                · intro w'
                  go_simp
                  with_reducible rfl
                rotate_left
                · simp only [Act.put, List.setIfInBounds_toArray, List.set_cons_zero, List.set_cons_succ, i64_w, i32_w]
                  rfl
                refine pure_ (i := 2) (N := some 66) (v := ?_) (a' := ?_) #[true, true, true, false, false, false, false, false, false, false, false, false, false, false, false, false, false, false, false, false] rfl rfl (by kernel_rfl) (fun _ _ _ h => h) (Or.inl ⟨by rfl, ?_⟩) ?_ ?_
                rotate_left
                · intro w'
                  go_simp
                  with_reducible rfl
                rotate_left
                · simp only [Act.put, List.setIfInBounds_toArray, List.set_cons_zero, List.set_cons_succ, i64_w, i32_w]
                  rfl
                refine pure_ (i := 3) (N := some 67) (v := ?_) (a' := ?_) #[true, true, true, true, false, false, false, false, false, false, false, false, false, false, false, false, false, false, false, false] rfl rfl (by kernel_rfl) (fun _ _ _ h => h) (Or.inl ⟨by rfl, ?_⟩) ?_ ?_
                rotate_left
                · intro w'
                  go_simp
                  with_reducible rfl
                rotate_left
                · simp only [Act.put, List.setIfInBounds_toArray, List.set_cons_zero, List.set_cons_succ, i64_w, i32_w]
                  rfl
                refine pure_ (i := 4) (N := some 68) (v := ?_) (a' := ?_) #[true, true, true, true, true, false, false, false, false, false, false, false, false, false, false, false, false, false, false, false] rfl rfl (by kernel_rfl) (fun _ _ _ h => h) (Or.inl ⟨by rfl, ?_⟩) ?_ ?_
                rotate_left
                · intro w'
                  go_simp
                  with_reducible rfl
                rotate_left
                · simp only [Act.put, List.setIfInBounds_toArray, List.set_cons_zero, List.set_cons_succ, i64_w, i32_w]
                  rfl
                refine pure_ (i := 5) (N := some 69) (v := ?_) (a' := ?_) #[true, true, true, true, true, true, false, false, false, false, false, false, false, false, false, false, false, false, false, false] rfl rfl (by kernel_rfl) (fun _ _ _ h => h) (Or.inl ⟨by rfl, ?_⟩) ?_ ?_
                rotate_left
                · intro w'
                  go_simp
                  with_reducible rfl
                rotate_left
                · simp only [Act.put, List.setIfInBounds_toArray, List.set_cons_zero, List.set_cons_succ, i64_w, i32_w]
                  rfl
                refine pure_ (i := 6) (N := some 70) (v := ?_) (a' := ?_) #[true, true, true, true, true, true, true, false, false, false, false, false, false, false, false, false, false, false, false, false] rfl rfl (by kernel_rfl) (fun _ _ _ h => h) (Or.inl ⟨by rfl, ?_⟩) ?_ ?_
                rotate_left
                · intro w'
                  go_simp
                  with_reducible rfl
                rotate_left
                · simp only [Act.put, List.setIfInBounds_toArray, List.set_cons_zero, List.set_cons_succ, i64_w, i32_w]
                  rfl
                refine pure_ (i := 7) (N := some 71) (v := ?_) (a' := ?_) #[true, true, true, true, true, true, true, true, false, false, false, false, false, false, false, false, false, false, false, false] rfl rfl (by kernel_rfl) (fun _ _ _ h => h) (Or.inl ⟨by rfl, ?_⟩) ?_ ?_
                rotate_left
                · intro w'
                  go_simp
                  with_reducible rfl
                rotate_left
                · simp only [Act.put, List.setIfInBounds_toArray, List.set_cons_zero, List.set_cons_succ, i64_w, i32_w]
                  rfl
                refine take_ (i := 8) (N := some 72) (v := ?_) (a' := ?_) #[true, true, true, true, true, true, true, true, true, false, false, false, false, false, false, false, false, false, false, false] rfl rfl (by kernel_rfl) (fun _ _ _ h => h) (Or.inl ⟨by rfl, ?_⟩) hHeld ?_ ?_
                rotate_left
                · intro w' s0
                  go_simp
                  with_reducible rfl
                rotate_left
                · simp only [Act.put, List.setIfInBounds_toArray, List.set_cons_zero, List.set_cons_succ, i64_w, i32_w]
                  rfl
                refine pure_ (i := 9) (N := some 73) (v := ?_) (a' := ?_) #[true, true, true, true, true, true, true, true, true, true, false, false, false, false, false, false, false, false, false, false] rfl rfl (by kernel_rfl) (fun _ _ _ h => h) (Or.inl ⟨by rfl, ?_⟩) ?_ ?_
                rotate_left
                · intro w'
                  go_simp
                  with_reducible rfl
                rotate_left
                · simp only [Act.put, List.setIfInBounds_toArray, List.set_cons_zero, List.set_cons_succ, i64_w, i32_w]
                  rfl
                refine pure_ (i := 10) (N := some 74) (v := ?_) (a' := ?_) #[true, true, true, true, true, true, true, true, true, true, true, false, false, false, false, false, false, false, false, false] rfl rfl (by kernel_rfl) (fun _ _ _ h => h) (Or.inl ⟨by rfl, ?_⟩) ?_ ?_
                rotate_left
                · intro w'
                  go_simp
                  with_reducible rfl
                rotate_left
                · simp only [Act.put, List.setIfInBounds_toArray, List.set_cons_zero, List.set_cons_succ, i64_w, i32_w]
                  rfl
                refine pure_ (i := 11) (N := some 75) (v := ?_) (a' := ?_) #[true, true, true, true, true, true, true, true, true, true, true, true, false, false, false, false, false, false, false, false] rfl rfl (by kernel_rfl) (fun _ _ _ h => h) (Or.inl ⟨by rfl, ?_⟩) ?_ ?_
                rotate_left
                · intro w'
                  go_simp
                  with_reducible rfl
                rotate_left
                · simp only [Act.put, List.setIfInBounds_toArray, List.set_cons_zero, List.set_cons_succ, i64_w, i32_w]
                  rfl
                refine pure_ (i := 12) (N := some 76) (v := ?_) (a' := ?_) #[true, true, true, true, true, true, true, true, true, true, true, true, true, false, false, false, false, false, false, false] rfl rfl (by kernel_rfl) (fun _ _ _ h => h) (Or.inl ⟨by rfl, ?_⟩) ?_ ?_
                rotate_left
                · intro w'
                  go_simp
                  with_reducible rfl
                rotate_left
                · simp only [Act.put, List.setIfInBounds_toArray, List.set_cons_zero, List.set_cons_succ, i64_w, i32_w]
                  rfl
                refine pure_ (i := 13) (N := some 77) (v := ?_) (a' := ?_) #[true, true, true, true, true, true, true, true, true, true, true, true, true, true, false, false, false, false, false, false] rfl rfl (by kernel_rfl) (fun _ _ _ h => h) (Or.inl ⟨by rfl, ?_⟩) ?_ ?_
                rotate_left
                · intro w'
                  go_simp
                  with_reducible rfl
                rotate_left
                · simp only [Act.put, List.setIfInBounds_toArray, List.set_cons_zero, List.set_cons_succ, i64_w, i32_w]
                  rfl
                refine pure_ (i := 14) (N := some 78) (v := ?_) (a' := ?_) #[true, true, true, true, true, true, true, true, true, true, true, true, true, true, true, false, false, false, false, false] rfl rfl (by kernel_rfl) (fun _ _ _ h => h) (Or.inl ⟨by rfl, ?_⟩) ?_ ?_
                rotate_left
                · intro w'
                  go_simp
                  with_reducible rfl
                rotate_left
                · simp only [Act.put, List.setIfInBounds_toArray, List.set_cons_zero, List.set_cons_succ, i64_w, i32_w]
                  rfl
                refine pure_ (i := 16) (N := some 80) (v := ?_) (a' := ?_) #[true, true, true, true, true, true, true, true, true, true, true, true, true, true, true, false, true, false, false, false] rfl rfl (by kernel_rfl) (fun _ _ _ h => h) (Or.inl ⟨by rfl, ?_⟩) ?_ ?_
                rotate_left
                · intro w'
                  go_simp
                  with_reducible rfl
                rotate_left
                · simp only [Act.put, List.setIfInBounds_toArray, List.set_cons_zero, List.set_cons_succ, i64_w, i32_w]
                  rfl
                refine take_ (i := 15) (N := some 79) (v := ?_) (a' := ?_) #[true, true, true, true, true, true, true, true, true, true, true, true, true, true, true, true, true, false, false, false] rfl rfl (by kernel_rfl) (fun _ _ _ h => h) (Or.inl ⟨by rfl, ?_⟩) hHeld ?_ ?_
                rotate_left
                · intro w' s0
                  go_simp
                  with_reducible rfl
                rotate_left
                · simp only [Act.put, List.setIfInBounds_toArray, List.set_cons_zero, List.set_cons_succ, i64_w, i32_w]
                  rfl
                refine one_ (i := 17) (N := some 81) #[true, true, true, true, true, true, true, true, true, true, true, true, true, true, true, true, true, true, false, false] rfl rfl (by kernel_rfl) (by decide) (fun K hK => ?_)
                refine goes_ Try.func18 (by kernel_rfl) rfl #[.pointer (some ⟨p, 0, none⟩)] (by rfl) rfl rfl (by simp only [List.map_toArray, List.map_cons, List.map_nil]; rfl) ?_
                with_reducible refine (nlen_ok p 2 ps gk HL.out HW.out.drew).mono ?_
                rintro e w4 ⟨rfl, rfl⟩
                refine ⟨_, rfl, ?_⟩
                refine hK.out _ _ (hcell) (fun hHeld => ?_)
                clear hK K
                refine norm_ (a' := ?_) ?_ ?_
                rotate_left
                · show Act.put _ (some 81) _ = _
                  simp only [Act.put, List.setIfInBounds_toArray, List.set_cons_zero, List.set_cons_succ, i64_w, i32_w]
                  rfl
                refine pure_ (i := 18) (N := some 82) (v := ?_) (a' := ?_) #[true, true, true, true, true, true, true, true, true, true, true, true, true, true, true, true, true, true, true, false] rfl rfl (by kernel_rfl) (fun _ _ _ h => h) (Or.inl ⟨by rfl, ?_⟩) ?_ ?_
                rotate_left
                · intro w'
                  go_simp
                  with_reducible rfl
                rotate_left
                · simp only [Act.put, List.setIfInBounds_toArray, List.set_cons_zero, List.set_cons_succ, i64_w, i32_w]
                  rfl
                refine pure_ (i := 19) (N := some 83) (v := ?_) (a' := ?_) #[true, true, true, true, true, true, true, true, true, true, true, true, true, true, true, true, true, true, true, true] rfl rfl (by kernel_rfl) (fun _ _ _ h => h) (Or.inl ⟨by rfl, ?_⟩) ?_ ?_
                rotate_left
                · intro w'
                  go_simp
                  with_reducible rfl
                rotate_left
                · simp only [Act.put, List.setIfInBounds_toArray, List.set_cons_zero, List.set_cons_succ, i64_w, i32_w]
                  rfl
                refine done_ (by kernel_rfl) ?_
                have HW := Aside0.mk HW.out.drew
                clear hHeld d1 d2 d3
                obtain ⟨⟨f, t, xs⟩, hpj⟩ : ∃ pk, ps[0]? = some pk := ⟨_, List.getElem?_eq_getElem (by rw [HL.out]; exact hq1)⟩
                have hgood := HG.out _ (List.mem_of_getElem? hpj)
                have hxb : bytes xs := hgood.2.1
                have hxl : xs.length ≤ 140737488351232 := hgood.2.2
                have hft0 : 0 ≤ f ∧ f ≤ 1 ∧ f + t = 1 := hgood.1
                have PJ := Aside0.mk hpj
                have XB := Aside0.mk hxb
                have FT := Aside0.mk hft0
                have hps4 : ps.length ≤ 4096 := by rw [HL.out]; exact hq4
                have P4 := Aside0.mk hps4
                have JL := Aside0.mk (show 0 < ps.length by rw [HL.out]; exact hq1)
                clear hpj hgood hxb hft0 hps4
                go_wp2_with fail
                by_cases hbit : bit < 0 ∨ (0 ≤ bit ∧ (xs.length : Int) ≤ bit / 8)
                · refine (nflip_far p 2 ps 0 bit f t xs JL.out PJ.out hbit hb1 hb2 P4.out HW.out).mono ?_
                  rintro e w4 ⟨rfl, rfl⟩
                  go_wp2_with fail
                  refine (ndeliver_ok p 2 ps 0 JL.out P4.out HW.out).mono ?_
                  rintro e w5 ⟨f', t', A', n', c', xs', rfl, hp', hn', hc', h5⟩
                  have e9 := hp'.out
                  rw [PJ.out] at e9
                  simp only [Option.some.injEq, Prod.mk.injEq] at e9
                  obtain ⟨rfl, rfl, rfl⟩ := e9
                  have hft := FT.out.2.2
                  have hf0 := FT.out.1
                  have hf1 := FT.out.2.1
                  have H6 := Aside0.mk (h5.alloc (.cells #[.int .i64 f, .int .i64 t, .slice A' n' c'] 33))
                  obtain ⟨s, hs⟩ : ∃ s, s = strOfNums xs := ⟨_, rfl⟩
                  have hcv : ∀ W F', Hw w W (row (Kd.int .u8) 5 (.slice A' n' c') xs * F') → (convert 31 9 (.slice A' n' c')).run Try.prog W = .ok (.string s) W := fun W F' hW => by rw [hs]; exact hW.row_string Try.underlying31 Try.underlying5 Try.underlying9
                  have hcv1 := hcv _ _ H6.out.right
                  have hssz : s.size ≤ maxLen := by rw [hs, tx_size]; have h := HG.out _ (List.mem_of_getElem? PJ.out); have h2 : xs.length ≤ 140737488351232 := h.2.2; unfold maxLen; omega
                  obtain ⟨cn, hcn⟩ : ∃ cn, cn = cntK (kOf xs) ps := ⟨_, rfl⟩
                  have hcl : cn ≤ 4096 := by have := cntK_le (kOf xs) ps; rw [HL.out] at this; omega
                  have hcp : 1 ≤ cn := by rw [hcn]; exact cntK_pos ps 0 f t xs PJ.out
                  have hkey : keyOf Try.prog 9 (.string s) = some (kOf xs) := by rw [hs]; exact keyOf_string_mk Try.underlying9 (by rw [← hs]; exact hssz)
                  have H7 := Aside0.mk ((H6.out.right.right).at (mapN mb g c))
                  have hmap := H6.out.at (mapN mb g c)
                  have hlook := map_look hmap (string_keyed Try.underlying9) Try.underlying29 (Try.zeroValue3 _) hkey
                  rw [HI.out (kOf xs), ← hcn] at hlook
                  obtain ⟨w8, hput, h8⟩ := map_put hmap (string_keyed Try.underlying9) Try.underlying29 (by unfold maxLen; omega) (.int .i64 ((cn : Int) - 1)) hkey
                  have hI2 := MI_del HI.out 0 f t xs PJ.out
                  rw [← hcn] at hI2
                  have hsome : (g (kOf xs)).isSome = true := by
                    have h := HI.out (kOf xs)
                    cases hg : g (kOf xs) with
                    | none => rw [hg, ← hcn] at h; simp at h; omega
                    | some v => rfl
                  rw [if_pos hsome] at h8
                  have H8 := Aside0.mk (((h8.dropB w5.heap.size).dropR (Kd.int .u8) 5 (.slice A' n' c')).at (net p 2 (ps.eraseIdx 0)))
                  have HI2 := Aside0.mk hI2
                  have HG2 := Aside0.mk (Good_erase HG.out 0)
                  have hel : (ps.eraseIdx 0).length = gk - 1 := by rw [List.length_eraseIdx, if_pos JL.out, HL.out]
                  have EL := Aside0.mk hel
                  clear hcv hs hssz hcn hkey hmap h8 hI2 hsome hel h5 H6 H7 HW hn' hc'
                  go_wp2_with fail
                  go_roundg (gk - 1)
                  case measure => omega
                  case rel => exact ⟨i + 1, c, _, _, by omega, hc, by go_num, EL, HG2, HI2, H8⟩
                · obtain ⟨b, rfl⟩ : ∃ b : Nat, bit = b := ⟨bit.toNat, by omega⟩
                  obtain ⟨v, hv⟩ : ∃ v, xs[b / 8]? = some v := ⟨_, List.getElem?_eq_getElem (by omega)⟩
                  have hvb := XB.out v (List.mem_of_getElem? hv)
                  obtain ⟨fy1, fy2, fy3, fy4, fy5⟩ := flip8_at v (b % 8) hvb.1 hvb.2 (by omega)
                  refine (nflip_ok p 2 ps 0 b f t xs v JL.out PJ.out hv hvb.1 hvb.2 (by omega) P4.out HW.out).mono ?_
                  rintro e w3b ⟨rfl, h3b⟩
                  have H3b := Aside0.mk h3b
                  have V := Aside0.mk hv
                  have F3 := Aside0.mk fy3
                  have F4 := Aside0.mk fy4
                  have F5 := Aside0.mk fy5
                  have hb8 : b / 8 < xs.length := by omega
                  have B8 := Aside0.mk hb8
                  have XL := Aside0.mk hxl
                  clear h3b hv hvb fy1 fy2 fy3 fy4 fy5 hb8 hxl HW hbit
                  go_wp2_with fail
                  refine (nflip_ok p 2 _ 0 b f t (xs.set (b / 8) (flip8 v (b % 8))) (flip8 v (b % 8)) (by rw [List.length_set]; exact JL.out) (List.getElem?_set_self JL.out) (List.getElem?_set_self B8.out) F3.out F4.out (by rw [List.length_set]; have := XL.out; omega) (by rw [List.length_set]; exact P4.out) H3b.out).mono ?_
                  have hxx : (xs.set (b / 8) (flip8 v (b % 8))).set (b / 8) (flip8 (flip8 v (b % 8)) (b % 8)) = xs := by
                    rw [F5.out, List.set_set]
                    have := V.out
                    rw [List.getElem?_eq_getElem B8.out] at this
                    simp only [Option.some.injEq] at this
                    rw [← this, List.set_getElem_self]
                  have hpp : (ps.set 0 (f, t, xs.set (b / 8) (flip8 v (b % 8)))).set 0 (f, t, xs) = ps := by
                    rw [List.set_set]
                    have := PJ.out
                    rw [List.getElem?_eq_getElem JL.out] at this
                    simp only [Option.some.injEq] at this
                    rw [← this, List.set_getElem_self]
                  rw [hxx, hpp]
                  clear hxx hpp
                  rintro e w4 ⟨rfl, h4⟩
                  have HW := Aside0.mk h4
                  clear h4 H3b V F3 F4 F5
                  go_wp2_with fail
                  refine (ndeliver_ok p 2 ps 0 JL.out P4.out HW.out).mono ?_
                  rintro e w5 ⟨f', t', A', n', c', xs', rfl, hp', hn', hc', h5⟩
                  have e9 := hp'.out
                  rw [PJ.out] at e9
                  simp only [Option.some.injEq, Prod.mk.injEq] at e9
                  obtain ⟨rfl, rfl, rfl⟩ := e9
                  have hft := FT.out.2.2
                  have hf0 := FT.out.1
                  have hf1 := FT.out.2.1
                  have H6 := Aside0.mk (h5.alloc (.cells #[.int .i64 f, .int .i64 t, .slice A' n' c'] 33))
                  obtain ⟨s, hs⟩ : ∃ s, s = strOfNums xs := ⟨_, rfl⟩
                  have hcv : ∀ W F', Hw w W (row (Kd.int .u8) 5 (.slice A' n' c') xs * F') → (convert 31 9 (.slice A' n' c')).run Try.prog W = .ok (.string s) W := fun W F' hW => by rw [hs]; exact hW.row_string Try.underlying31 Try.underlying5 Try.underlying9
                  have hcv1 := hcv _ _ H6.out.right
                  have hssz : s.size ≤ maxLen := by rw [hs, tx_size]; have h := HG.out _ (List.mem_of_getElem? PJ.out); have h2 : xs.length ≤ 140737488351232 := h.2.2; unfold maxLen; omega
                  obtain ⟨cn, hcn⟩ : ∃ cn, cn = cntK (kOf xs) ps := ⟨_, rfl⟩
                  have hcl : cn ≤ 4096 := by have := cntK_le (kOf xs) ps; rw [HL.out] at this; omega
                  have hcp : 1 ≤ cn := by rw [hcn]; exact cntK_pos ps 0 f t xs PJ.out
                  have hkey : keyOf Try.prog 9 (.string s) = some (kOf xs) := by rw [hs]; exact keyOf_string_mk Try.underlying9 (by rw [← hs]; exact hssz)
                  have H7 := Aside0.mk ((H6.out.right.right).at (mapN mb g c))
                  have hmap := H6.out.at (mapN mb g c)
                  have hlook := map_look hmap (string_keyed Try.underlying9) Try.underlying29 (Try.zeroValue3 _) hkey
                  rw [HI.out (kOf xs), ← hcn] at hlook
                  obtain ⟨w8, hput, h8⟩ := map_put hmap (string_keyed Try.underlying9) Try.underlying29 (by unfold maxLen; omega) (.int .i64 ((cn : Int) - 1)) hkey
                  have hI2 := MI_del HI.out 0 f t xs PJ.out
                  rw [← hcn] at hI2
                  have hsome : (g (kOf xs)).isSome = true := by
                    have h := HI.out (kOf xs)
                    cases hg : g (kOf xs) with
                    | none => rw [hg, ← hcn] at h; simp at h; omega
                    | some v => rfl
                  rw [if_pos hsome] at h8
                  have H8 := Aside0.mk (((h8.dropB w5.heap.size).dropR (Kd.int .u8) 5 (.slice A' n' c')).at (net p 2 (ps.eraseIdx 0)))
                  have HI2 := Aside0.mk hI2
                  have HG2 := Aside0.mk (Good_erase HG.out 0)
                  have hel : (ps.eraseIdx 0).length = gk - 1 := by rw [List.length_eraseIdx, if_pos JL.out, HL.out]
                  have EL := Aside0.mk hel
                  clear hcv hs hssz hcn hkey hmap h8 hI2 hsome hel h5 H6 H7 HW hn' hc'
                  go_wp2_with fail
                  go_roundg (gk - 1)
                  case measure => omega
                  case rel => exact ⟨i + 1, c, _, _, by omega, hc, by go_num, EL, HG2, HI2, H8⟩
            · have d2 : decide (0 ≤ x) = false := decide_eq_false hx0
              go_upto_region 18 with fail
              refine start_ (n := 20) (S := fun w' => w'.cell? (ad.add i) = some (.int .i64 x)) (ds := []) #[false, false, false, false, false, false, false, false, false, false, false, false, false, false, false, false, false, false, false, false] (by kernel_rfl) rfl rfl (hcell) (fun hHeld => ?_)
              refine pure_ (i := 0) (N := some 64) (v := ?_) (a' := ?_) #[true, false, false, false, false, false, false, false, false, false, false, false, false, false, false, false, false, false, false, false] rfl rfl (by kernel_rfl) (fun _ _ _ h => h) (Or.inl ⟨by rfl, ?_⟩) ?_ ?_
              rotate_left
              · intro w'
                go_simp
                with_reducible rfl
              rotate_left
              · simp only [Act.put, List.setIfInBounds_toArray, List.set_cons_zero, List.set_cons_succ, i64_w, i32_w]
                rfl
              refine pure_ (i := 1) (N := some 65) (v := ?_) (a' := ?_) #[true, true, false, false, false, false, false, false, false, false, false, false, false, false, false, false, false, false, false, false] rfl rfl (by kernel_rfl) (fun _ _ _ h => h) (Or.inl ⟨by rfl, ?_⟩) ?_ ?_
              rotate_left
              · intro w'
                go_simp
                with_reducible rfl
              rotate_left
              · simp only [Act.put, List.setIfInBounds_toArray, List.set_cons_zero, List.set_cons_succ, i64_w, i32_w]
                rfl
              refine pure_ (i := 2) (N := some 66) (v := ?_) (a' := ?_) #[true, true, true, false, false, false, false, false, false, false, false, false, false, false, false, false, false, false, false, false] rfl rfl (by kernel_rfl) (fun _ _ _ h => h) (Or.inl ⟨by rfl, ?_⟩) ?_ ?_
              rotate_left
              · intro w'
                go_simp
                with_reducible rfl
              rotate_left
              · simp only [Act.put, List.setIfInBounds_toArray, List.set_cons_zero, List.set_cons_succ, i64_w, i32_w]
                rfl
              refine pure_ (i := 3) (N := some 67) (v := ?_) (a' := ?_) #[true, true, true, true, false, false, false, false, false, false, false, false, false, false, false, false, false, false, false, false] rfl rfl (by kernel_rfl) (fun _ _ _ h => h) (Or.inl ⟨by rfl, ?_⟩) ?_ ?_
              rotate_left
              · intro w'
                go_simp
                with_reducible rfl
              rotate_left
              · simp only [Act.put, List.setIfInBounds_toArray, List.set_cons_zero, List.set_cons_succ, i64_w, i32_w]
                rfl
              refine pure_ (i := 4) (N := some 68) (v := ?_) (a' := ?_) #[true, true, true, true, true, false, false, false, false, false, false, false, false, false, false, false, false, false, false, false] rfl rfl (by kernel_rfl) (fun _ _ _ h => h) (Or.inl ⟨by rfl, ?_⟩) ?_ ?_
              rotate_left
              · intro w'
                go_simp
                with_reducible rfl
              rotate_left
              · simp only [Act.put, List.setIfInBounds_toArray, List.set_cons_zero, List.set_cons_succ, i64_w, i32_w]
                rfl
              refine pure_ (i := 5) (N := some 69) (v := ?_) (a' := ?_) #[true, true, true, true, true, true, false, false, false, false, false, false, false, false, false, false, false, false, false, false] rfl rfl (by kernel_rfl) (fun _ _ _ h => h) (Or.inl ⟨by rfl, ?_⟩) ?_ ?_
              rotate_left
              · intro w'
                go_simp
                with_reducible rfl
              rotate_left
              · simp only [Act.put, List.setIfInBounds_toArray, List.set_cons_zero, List.set_cons_succ, i64_w, i32_w]
                rfl
              refine pure_ (i := 6) (N := some 70) (v := ?_) (a' := ?_) #[true, true, true, true, true, true, true, false, false, false, false, false, false, false, false, false, false, false, false, false] rfl rfl (by kernel_rfl) (fun _ _ _ h => h) (Or.inl ⟨by rfl, ?_⟩) ?_ ?_
              rotate_left
              · intro w'
                go_simp
                with_reducible rfl
              rotate_left
              · simp only [Act.put, List.setIfInBounds_toArray, List.set_cons_zero, List.set_cons_succ, i64_w, i32_w]
                rfl
              refine pure_ (i := 7) (N := some 71) (v := ?_) (a' := ?_) #[true, true, true, true, true, true, true, true, false, false, false, false, false, false, false, false, false, false, false, false] rfl rfl (by kernel_rfl) (fun _ _ _ h => h) (Or.inl ⟨by rfl, ?_⟩) ?_ ?_
              rotate_left
              · intro w'
                go_simp
                with_reducible rfl
              rotate_left
              · simp only [Act.put, List.setIfInBounds_toArray, List.set_cons_zero, List.set_cons_succ, i64_w, i32_w]
                rfl
              refine take_ (i := 8) (N := some 72) (v := ?_) (a' := ?_) #[true, true, true, true, true, true, true, true, true, false, false, false, false, false, false, false, false, false, false, false] rfl rfl (by kernel_rfl) (fun _ _ _ h => h) (Or.inl ⟨by rfl, ?_⟩) hHeld ?_ ?_
              rotate_left
              · intro w' s0
                go_simp
                with_reducible rfl
              rotate_left
              · simp only [Act.put, List.setIfInBounds_toArray, List.set_cons_zero, List.set_cons_succ, i64_w, i32_w]
                rfl
              refine pure_ (i := 9) (N := some 73) (v := ?_) (a' := ?_) #[true, true, true, true, true, true, true, true, true, true, false, false, false, false, false, false, false, false, false, false] rfl rfl (by kernel_rfl) (fun _ _ _ h => h) (Or.inl ⟨by rfl, ?_⟩) ?_ ?_
              rotate_left
              · intro w'
                go_simp
                with_reducible rfl
              rotate_left
              · simp only [Act.put, List.setIfInBounds_toArray, List.set_cons_zero, List.set_cons_succ, i64_w, i32_w]
                rfl
              refine pure_ (i := 10) (N := some 74) (v := ?_) (a' := ?_) #[true, true, true, true, true, true, true, true, true, true, true, false, false, false, false, false, false, false, false, false] rfl rfl (by kernel_rfl) (fun _ _ _ h => h) (Or.inl ⟨by rfl, ?_⟩) ?_ ?_
              rotate_left
              · intro w'
                go_simp
                with_reducible rfl
              rotate_left
              · simp only [Act.put, List.setIfInBounds_toArray, List.set_cons_zero, List.set_cons_succ, i64_w, i32_w]
                rfl
              refine pure_ (i := 11) (N := some 75) (v := ?_) (a' := ?_) #[true, true, true, true, true, true, true, true, true, true, true, true, false, false, false, false, false, false, false, false] rfl rfl (by kernel_rfl) (fun _ _ _ h => h) (Or.inl ⟨by rfl, ?_⟩) ?_ ?_
              rotate_left
              · intro w'
                go_simp
                with_reducible rfl
              rotate_left
              · simp only [Act.put, List.setIfInBounds_toArray, List.set_cons_zero, List.set_cons_succ, i64_w, i32_w]
                rfl
              refine pure_ (i := 12) (N := some 76) (v := undef) (a' := ?_) #[true, true, true, true, true, true, true, true, true, true, true, true, true, false, false, false, false, false, false, false] rfl rfl (by kernel_rfl) (fun _ _ _ h => h) (Or.inr ⟨by rfl, rfl⟩) ?_ ?_
              rotate_left
              · simp only [Act.put, List.setIfInBounds_toArray, List.set_cons_zero, List.set_cons_succ, i64_w, i32_w]
                rfl
              refine pure_ (i := 13) (N := some 77) (v := undef) (a' := ?_) #[true, true, true, true, true, true, true, true, true, true, true, true, true, true, false, false, false, false, false, false] rfl rfl (by kernel_rfl) (fun _ _ _ h => h) (Or.inr ⟨by rfl, rfl⟩) ?_ ?_
              rotate_left
              · simp only [Act.put, List.setIfInBounds_toArray, List.set_cons_zero, List.set_cons_succ, i64_w, i32_w]
                rfl
              refine pure_ (i := 14) (N := some 78) (v := undef) (a' := ?_) #[true, true, true, true, true, true, true, true, true, true, true, true, true, true, true, false, false, false, false, false] rfl rfl (by kernel_rfl) (fun _ _ _ h => h) (Or.inr ⟨by rfl, rfl⟩) ?_ ?_
              rotate_left
              · simp only [Act.put, List.setIfInBounds_toArray, List.set_cons_zero, List.set_cons_succ, i64_w, i32_w]
                rfl
              refine pure_ (i := 15) (N := some 79) (v := undef) (a' := ?_) #[true, true, true, true, true, true, true, true, true, true, true, true, true, true, true, true, false, false, false, false] rfl rfl (by kernel_rfl) (fun _ _ _ h => h) (Or.inr ⟨by rfl, rfl⟩) ?_ ?_
              rotate_left
              · simp only [Act.put, List.setIfInBounds_toArray, List.set_cons_zero, List.set_cons_succ, i64_w, i32_w]
                rfl
              refine pure_ (i := 16) (N := some 80) (v := undef) (a' := ?_) #[true, true, true, true, true, true, true, true, true, true, true, true, true, true, true, true, true, false, false, false] rfl rfl (by kernel_rfl) (fun _ _ _ h => h) (Or.inr ⟨by rfl, rfl⟩) ?_ ?_
              rotate_left
              · simp only [Act.put, List.setIfInBounds_toArray, List.set_cons_zero, List.set_cons_succ, i64_w, i32_w]
                rfl
              refine pure_ (i := 17) (N := some 81) (v := undef) (a' := ?_) #[true, true, true, true, true, true, true, true, true, true, true, true, true, true, true, true, true, true, false, false] rfl rfl (by kernel_rfl) (fun _ _ _ h => h) (Or.inr ⟨by rfl, rfl⟩) ?_ ?_
              rotate_left
              · simp only [Act.put, List.setIfInBounds_toArray, List.set_cons_zero, List.set_cons_succ, i64_w, i32_w]
                rfl
              refine pure_ (i := 18) (N := some 82) (v := undef) (a' := ?_) #[true, true, true, true, true, true, true, true, true, true, true, true, true, true, true, true, true, true, true, false] rfl rfl (by kernel_rfl) (fun _ _ _ h => h) (Or.inr ⟨by rfl, rfl⟩) ?_ ?_
              rotate_left
              · simp only [Act.put, List.setIfInBounds_toArray, List.set_cons_zero, List.set_cons_succ, i64_w, i32_w]
                rfl
              refine pure_ (i := 19) (N := some 83) (v := ?_) (a' := ?_) #[true, true, true, true, true, true, true, true, true, true, true, true, true, true, true, true, true, true, true, true] rfl rfl (by kernel_rfl) (fun _ _ _ h => h) (Or.inl ⟨by rfl, ?_⟩) ?_ ?_
              rotate_left
              · intro w'
                go_simp
                with_reducible rfl
              rotate_left
              · simp only [Act.put, List.setIfInBounds_toArray, List.set_cons_zero, List.set_cons_succ, i64_w, i32_w]
                rfl
              refine done_ (by kernel_rfl) ?_
              have HW := Aside0.mk HW.out.drew
              clear hHeld d1 d2
              obtain ⟨⟨f, t, xs⟩, hpj⟩ : ∃ pk, ps[0]? = some pk := ⟨_, List.getElem?_eq_getElem (by rw [HL.out]; exact hq1)⟩
              have hgood := HG.out _ (List.mem_of_getElem? hpj)
              have hxb : bytes xs := hgood.2.1
              have hxl : xs.length ≤ 140737488351232 := hgood.2.2
              have hft0 : 0 ≤ f ∧ f ≤ 1 ∧ f + t = 1 := hgood.1
              have PJ := Aside0.mk hpj
              have XB := Aside0.mk hxb
              have FT := Aside0.mk hft0
              have hps4 : ps.length ≤ 4096 := by rw [HL.out]; exact hq4
              have P4 := Aside0.mk hps4
              have JL := Aside0.mk (show 0 < ps.length by rw [HL.out]; exact hq1)
              clear hpj hgood hxb hft0 hps4
              go_wp2_with fail
              by_cases hbit : bit < 0 ∨ (0 ≤ bit ∧ (xs.length : Int) ≤ bit / 8)
              · refine (nflip_far p 2 ps 0 bit f t xs JL.out PJ.out hbit hb1 hb2 P4.out HW.out).mono ?_
                rintro e w4 ⟨rfl, rfl⟩
                go_wp2_with fail
                refine (ndeliver_ok p 2 ps 0 JL.out P4.out HW.out).mono ?_
                rintro e w5 ⟨f', t', A', n', c', xs', rfl, hp', hn', hc', h5⟩
                have e9 := hp'.out
                rw [PJ.out] at e9
                simp only [Option.some.injEq, Prod.mk.injEq] at e9
                obtain ⟨rfl, rfl, rfl⟩ := e9
                have hft := FT.out.2.2
                have hf0 := FT.out.1
                have hf1 := FT.out.2.1
                have H6 := Aside0.mk (h5.alloc (.cells #[.int .i64 f, .int .i64 t, .slice A' n' c'] 33))
                obtain ⟨s, hs⟩ : ∃ s, s = strOfNums xs := ⟨_, rfl⟩
                have hcv : ∀ W F', Hw w W (row (Kd.int .u8) 5 (.slice A' n' c') xs * F') → (convert 31 9 (.slice A' n' c')).run Try.prog W = .ok (.string s) W := fun W F' hW => by rw [hs]; exact hW.row_string Try.underlying31 Try.underlying5 Try.underlying9
                have hcv1 := hcv _ _ H6.out.right
                have hssz : s.size ≤ maxLen := by rw [hs, tx_size]; have h := HG.out _ (List.mem_of_getElem? PJ.out); have h2 : xs.length ≤ 140737488351232 := h.2.2; unfold maxLen; omega
                obtain ⟨cn, hcn⟩ : ∃ cn, cn = cntK (kOf xs) ps := ⟨_, rfl⟩
                have hcl : cn ≤ 4096 := by have := cntK_le (kOf xs) ps; rw [HL.out] at this; omega
                have hcp : 1 ≤ cn := by rw [hcn]; exact cntK_pos ps 0 f t xs PJ.out
                have hkey : keyOf Try.prog 9 (.string s) = some (kOf xs) := by rw [hs]; exact keyOf_string_mk Try.underlying9 (by rw [← hs]; exact hssz)
                have H7 := Aside0.mk ((H6.out.right.right).at (mapN mb g c))
                have hmap := H6.out.at (mapN mb g c)
                have hlook := map_look hmap (string_keyed Try.underlying9) Try.underlying29 (Try.zeroValue3 _) hkey
                rw [HI.out (kOf xs), ← hcn] at hlook
                obtain ⟨w8, hput, h8⟩ := map_put hmap (string_keyed Try.underlying9) Try.underlying29 (by unfold maxLen; omega) (.int .i64 ((cn : Int) - 1)) hkey
                have hI2 := MI_del HI.out 0 f t xs PJ.out
                rw [← hcn] at hI2
                have hsome : (g (kOf xs)).isSome = true := by
                  have h := HI.out (kOf xs)
                  cases hg : g (kOf xs) with
                  | none => rw [hg, ← hcn] at h; simp at h; omega
                  | some v => rfl
                rw [if_pos hsome] at h8
                have H8 := Aside0.mk (((h8.dropB w5.heap.size).dropR (Kd.int .u8) 5 (.slice A' n' c')).at (net p 2 (ps.eraseIdx 0)))
                have HI2 := Aside0.mk hI2
                have HG2 := Aside0.mk (Good_erase HG.out 0)
                have hel : (ps.eraseIdx 0).length = gk - 1 := by rw [List.length_eraseIdx, if_pos JL.out, HL.out]
                have EL := Aside0.mk hel
                clear hcv hs hssz hcn hkey hmap h8 hI2 hsome hel h5 H6 H7 HW hn' hc'
                go_wp2_with fail
                go_roundg (gk - 1)
                case measure => omega
                case rel => exact ⟨i + 1, c, _, _, by omega, hc, by go_num, EL, HG2, HI2, H8⟩
              · obtain ⟨b, rfl⟩ : ∃ b : Nat, bit = b := ⟨bit.toNat, by omega⟩
                obtain ⟨v, hv⟩ : ∃ v, xs[b / 8]? = some v := ⟨_, List.getElem?_eq_getElem (by omega)⟩
                have hvb := XB.out v (List.mem_of_getElem? hv)
                obtain ⟨fy1, fy2, fy3, fy4, fy5⟩ := flip8_at v (b % 8) hvb.1 hvb.2 (by omega)
                refine (nflip_ok p 2 ps 0 b f t xs v JL.out PJ.out hv hvb.1 hvb.2 (by omega) P4.out HW.out).mono ?_
                rintro e w3b ⟨rfl, h3b⟩
                have H3b := Aside0.mk h3b
                have V := Aside0.mk hv
                have F3 := Aside0.mk fy3
                have F4 := Aside0.mk fy4
                have F5 := Aside0.mk fy5
                have hb8 : b / 8 < xs.length := by omega
                have B8 := Aside0.mk hb8
                have XL := Aside0.mk hxl
                clear h3b hv hvb fy1 fy2 fy3 fy4 fy5 hb8 hxl HW hbit
                go_wp2_with fail
                refine (nflip_ok p 2 _ 0 b f t (xs.set (b / 8) (flip8 v (b % 8))) (flip8 v (b % 8)) (by rw [List.length_set]; exact JL.out) (List.getElem?_set_self JL.out) (List.getElem?_set_self B8.out) F3.out F4.out (by rw [List.length_set]; have := XL.out; omega) (by rw [List.length_set]; exact P4.out) H3b.out).mono ?_
                have hxx : (xs.set (b / 8) (flip8 v (b % 8))).set (b / 8) (flip8 (flip8 v (b % 8)) (b % 8)) = xs := by
                  rw [F5.out, List.set_set]
                  have := V.out
                  rw [List.getElem?_eq_getElem B8.out] at this
                  simp only [Option.some.injEq] at this
                  rw [← this, List.set_getElem_self]
                have hpp : (ps.set 0 (f, t, xs.set (b / 8) (flip8 v (b % 8)))).set 0 (f, t, xs) = ps := by
                  rw [List.set_set]
                  have := PJ.out
                  rw [List.getElem?_eq_getElem JL.out] at this
                  simp only [Option.some.injEq] at this
                  rw [← this, List.set_getElem_self]
                rw [hxx, hpp]
                clear hxx hpp
                rintro e w4 ⟨rfl, h4⟩
                have HW := Aside0.mk h4
                clear h4 H3b V F3 F4 F5
                go_wp2_with fail
                refine (ndeliver_ok p 2 ps 0 JL.out P4.out HW.out).mono ?_
                rintro e w5 ⟨f', t', A', n', c', xs', rfl, hp', hn', hc', h5⟩
                have e9 := hp'.out
                rw [PJ.out] at e9
                simp only [Option.some.injEq, Prod.mk.injEq] at e9
                obtain ⟨rfl, rfl, rfl⟩ := e9
                have hft := FT.out.2.2
                have hf0 := FT.out.1
                have hf1 := FT.out.2.1
                have H6 := Aside0.mk (h5.alloc (.cells #[.int .i64 f, .int .i64 t, .slice A' n' c'] 33))
                obtain ⟨s, hs⟩ : ∃ s, s = strOfNums xs := ⟨_, rfl⟩
                have hcv : ∀ W F', Hw w W (row (Kd.int .u8) 5 (.slice A' n' c') xs * F') → (convert 31 9 (.slice A' n' c')).run Try.prog W = .ok (.string s) W := fun W F' hW => by rw [hs]; exact hW.row_string Try.underlying31 Try.underlying5 Try.underlying9
                have hcv1 := hcv _ _ H6.out.right
                have hssz : s.size ≤ maxLen := by rw [hs, tx_size]; have h := HG.out _ (List.mem_of_getElem? PJ.out); have h2 : xs.length ≤ 140737488351232 := h.2.2; unfold maxLen; omega
                obtain ⟨cn, hcn⟩ : ∃ cn, cn = cntK (kOf xs) ps := ⟨_, rfl⟩
                have hcl : cn ≤ 4096 := by have := cntK_le (kOf xs) ps; rw [HL.out] at this; omega
                have hcp : 1 ≤ cn := by rw [hcn]; exact cntK_pos ps 0 f t xs PJ.out
                have hkey : keyOf Try.prog 9 (.string s) = some (kOf xs) := by rw [hs]; exact keyOf_string_mk Try.underlying9 (by rw [← hs]; exact hssz)
                have H7 := Aside0.mk ((H6.out.right.right).at (mapN mb g c))
                have hmap := H6.out.at (mapN mb g c)
                have hlook := map_look hmap (string_keyed Try.underlying9) Try.underlying29 (Try.zeroValue3 _) hkey
                rw [HI.out (kOf xs), ← hcn] at hlook
                obtain ⟨w8, hput, h8⟩ := map_put hmap (string_keyed Try.underlying9) Try.underlying29 (by unfold maxLen; omega) (.int .i64 ((cn : Int) - 1)) hkey
                have hI2 := MI_del HI.out 0 f t xs PJ.out
                rw [← hcn] at hI2
                have hsome : (g (kOf xs)).isSome = true := by
                  have h := HI.out (kOf xs)
                  cases hg : g (kOf xs) with
                  | none => rw [hg, ← hcn] at h; simp at h; omega
                  | some v => rfl
                rw [if_pos hsome] at h8
                have H8 := Aside0.mk (((h8.dropB w5.heap.size).dropR (Kd.int .u8) 5 (.slice A' n' c')).at (net p 2 (ps.eraseIdx 0)))
                have HI2 := Aside0.mk hI2
                have HG2 := Aside0.mk (Good_erase HG.out 0)
                have hel : (ps.eraseIdx 0).length = gk - 1 := by rw [List.length_eraseIdx, if_pos JL.out, HL.out]
                have EL := Aside0.mk hel
                clear hcv hs hssz hcn hkey hmap h8 hI2 hsome hel h5 H6 H7 HW hn' hc'
                go_wp2_with fail
                go_roundg (gk - 1)
                case measure => omega
                case rel => exact ⟨i + 1, c, _, _, by omega, hc, by go_num, EL, HG2, HI2, H8⟩
          · have d1 : decide (i < m) = false := decide_eq_false hi
            go_upto_region 18 with fail
            refine start_ (n := 20) (S := fun w' => True) (ds := []) #[false, false, false, false, false, false, false, false, false, false, false, false, false, false, false, false, false, false, false, false] (by kernel_rfl) rfl rfl trivial (fun hHeld => ?_)
            refine pure_ (i := 0) (N := some 64) (v := ?_) (a' := ?_) #[true, false, false, false, false, false, false, false, false, false, false, false, false, false, false, false, false, false, false, false] rfl rfl (by kernel_rfl) (fun _ _ _ h => h) (Or.inl ⟨by rfl, ?_⟩) ?_ ?_
            rotate_left
            · intro w'
              go_simp
              with_reducible rfl
            rotate_left
            · simp only [Act.put, List.setIfInBounds_toArray, List.set_cons_zero, List.set_cons_succ, i64_w, i32_w]
              rfl
            refine pure_ (i := 1) (N := some 65) (v := ?_) (a' := ?_) #[true, true, false, false, false, false, false, false, false, false, false, false, false, false, false, false, false, false, false, false] rfl rfl (by kernel_rfl) (fun _ _ _ h => h) (Or.inl ⟨by rfl, ?_⟩) ?_ ?_
            rotate_left
            · intro w'
              go_simp
              with_reducible rfl
            rotate_left
            · simp only [Act.put, List.setIfInBounds_toArray, List.set_cons_zero, List.set_cons_succ, i64_w, i32_w]
              rfl
            refine pure_ (i := 2) (N := some 66) (v := ?_) (a' := ?_) #[true, true, true, false, false, false, false, false, false, false, false, false, false, false, false, false, false, false, false, false] rfl rfl (by kernel_rfl) (fun _ _ _ h => h) (Or.inl ⟨by rfl, ?_⟩) ?_ ?_
            rotate_left
            · intro w'
              go_simp
              with_reducible rfl
            rotate_left
            · simp only [Act.put, List.setIfInBounds_toArray, List.set_cons_zero, List.set_cons_succ, i64_w, i32_w]
              rfl
            refine pure_ (i := 3) (N := some 67) (v := ?_) (a' := ?_) #[true, true, true, true, false, false, false, false, false, false, false, false, false, false, false, false, false, false, false, false] rfl rfl (by kernel_rfl) (fun _ _ _ h => h) (Or.inl ⟨by rfl, ?_⟩) ?_ ?_
            rotate_left
            · intro w'
              go_simp
              with_reducible rfl
            rotate_left
            · simp only [Act.put, List.setIfInBounds_toArray, List.set_cons_zero, List.set_cons_succ, i64_w, i32_w]
              rfl
            refine pure_ (i := 4) (N := some 68) (v := ?_) (a' := ?_) #[true, true, true, true, true, false, false, false, false, false, false, false, false, false, false, false, false, false, false, false] rfl rfl (by kernel_rfl) (fun _ _ _ h => h) (Or.inl ⟨by rfl, ?_⟩) ?_ ?_
            rotate_left
            · intro w'
              go_simp
              with_reducible rfl
            rotate_left
            · simp only [Act.put, List.setIfInBounds_toArray, List.set_cons_zero, List.set_cons_succ, i64_w, i32_w]
              rfl
            refine pure_ (i := 5) (N := some 69) (v := undef) (a' := ?_) #[true, true, true, true, true, true, false, false, false, false, false, false, false, false, false, false, false, false, false, false] rfl rfl (by kernel_rfl) (fun _ _ _ h => h) (Or.inr ⟨by rfl, rfl⟩) ?_ ?_
            rotate_left
            · simp only [Act.put, List.setIfInBounds_toArray, List.set_cons_zero, List.set_cons_succ, i64_w, i32_w]
              rfl
            refine pure_ (i := 6) (N := some 70) (v := undef) (a' := ?_) #[true, true, true, true, true, true, true, false, false, false, false, false, false, false, false, false, false, false, false, false] rfl rfl (by kernel_rfl) (fun _ _ _ h => h) (Or.inr ⟨by rfl, rfl⟩) ?_ ?_
            rotate_left
            · simp only [Act.put, List.setIfInBounds_toArray, List.set_cons_zero, List.set_cons_succ, i64_w, i32_w]
              rfl
            refine pure_ (i := 7) (N := some 71) (v := undef) (a' := ?_) #[true, true, true, true, true, true, true, true, false, false, false, false, false, false, false, false, false, false, false, false] rfl rfl (by kernel_rfl) (fun _ _ _ h => h) (Or.inr ⟨by rfl, rfl⟩) ?_ ?_
            rotate_left
            · simp only [Act.put, List.setIfInBounds_toArray, List.set_cons_zero, List.set_cons_succ, i64_w, i32_w]
              rfl
            refine pure_ (i := 8) (N := some 72) (v := undef) (a' := ?_) #[true, true, true, true, true, true, true, true, true, false, false, false, false, false, false, false, false, false, false, false] rfl rfl (by kernel_rfl) (fun _ _ _ h => h) (Or.inr ⟨by rfl, rfl⟩) ?_ ?_
            rotate_left
            · simp only [Act.put, List.setIfInBounds_toArray, List.set_cons_zero, List.set_cons_succ, i64_w, i32_w]
              rfl
            refine pure_ (i := 9) (N := some 73) (v := undef) (a' := ?_) #[true, true, true, true, true, true, true, true, true, true, false, false, false, false, false, false, false, false, false, false] rfl rfl (by kernel_rfl) (fun _ _ _ h => h) (Or.inr ⟨by rfl, rfl⟩) ?_ ?_
            rotate_left
            · simp only [Act.put, List.setIfInBounds_toArray, List.set_cons_zero, List.set_cons_succ, i64_w, i32_w]
              rfl
            refine pure_ (i := 10) (N := some 74) (v := ?_) (a' := ?_) #[true, true, true, true, true, true, true, true, true, true, true, false, false, false, false, false, false, false, false, false] rfl rfl (by kernel_rfl) (fun _ _ _ h => h) (Or.inl ⟨by rfl, ?_⟩) ?_ ?_
            rotate_left
            · intro w'
              go_simp
              with_reducible rfl
            rotate_left
            · simp only [Act.put, List.setIfInBounds_toArray, List.set_cons_zero, List.set_cons_succ, i64_w, i32_w]
              rfl
            refine pure_ (i := 11) (N := some 75) (v := ?_) (a' := ?_) #[true, true, true, true, true, true, true, true, true, true, true, true, false, false, false, false, false, false, false, false] rfl rfl (by kernel_rfl) (fun _ _ _ h => h) (Or.inl ⟨by rfl, ?_⟩) ?_ ?_
            rotate_left
            · intro w'
              go_simp
              with_reducible rfl
            rotate_left
            · simp only [Act.put, List.setIfInBounds_toArray, List.set_cons_zero, List.set_cons_succ, i64_w, i32_w]
              rfl
            refine pure_ (i := 12) (N := some 76) (v := undef) (a' := ?_) #[true, true, true, true, true, true, true, true, true, true, true, true, true, false, false, false, false, false, false, false] rfl rfl (by kernel_rfl) (fun _ _ _ h => h) (Or.inr ⟨by rfl, rfl⟩) ?_ ?_
            rotate_left
            · simp only [Act.put, List.setIfInBounds_toArray, List.set_cons_zero, List.set_cons_succ, i64_w, i32_w]
              rfl
            refine pure_ (i := 13) (N := some 77) (v := undef) (a' := ?_) #[true, true, true, true, true, true, true, true, true, true, true, true, true, true, false, false, false, false, false, false] rfl rfl (by kernel_rfl) (fun _ _ _ h => h) (Or.inr ⟨by rfl, rfl⟩) ?_ ?_
            rotate_left
            · simp only [Act.put, List.setIfInBounds_toArray, List.set_cons_zero, List.set_cons_succ, i64_w, i32_w]
              rfl
            refine pure_ (i := 14) (N := some 78) (v := undef) (a' := ?_) #[true, true, true, true, true, true, true, true, true, true, true, true, true, true, true, false, false, false, false, false] rfl rfl (by kernel_rfl) (fun _ _ _ h => h) (Or.inr ⟨by rfl, rfl⟩) ?_ ?_
            rotate_left
            · simp only [Act.put, List.setIfInBounds_toArray, List.set_cons_zero, List.set_cons_succ, i64_w, i32_w]
              rfl
            refine pure_ (i := 15) (N := some 79) (v := undef) (a' := ?_) #[true, true, true, true, true, true, true, true, true, true, true, true, true, true, true, true, false, false, false, false] rfl rfl (by kernel_rfl) (fun _ _ _ h => h) (Or.inr ⟨by rfl, rfl⟩) ?_ ?_
            rotate_left
            · simp only [Act.put, List.setIfInBounds_toArray, List.set_cons_zero, List.set_cons_succ, i64_w, i32_w]
              rfl
            refine pure_ (i := 16) (N := some 80) (v := undef) (a' := ?_) #[true, true, true, true, true, true, true, true, true, true, true, true, true, true, true, true, true, false, false, false] rfl rfl (by kernel_rfl) (fun _ _ _ h => h) (Or.inr ⟨by rfl, rfl⟩) ?_ ?_
            rotate_left
            · simp only [Act.put, List.setIfInBounds_toArray, List.set_cons_zero, List.set_cons_succ, i64_w, i32_w]
              rfl
            refine pure_ (i := 17) (N := some 81) (v := undef) (a' := ?_) #[true, true, true, true, true, true, true, true, true, true, true, true, true, true, true, true, true, true, false, false] rfl rfl (by kernel_rfl) (fun _ _ _ h => h) (Or.inr ⟨by rfl, rfl⟩) ?_ ?_
            rotate_left
            · simp only [Act.put, List.setIfInBounds_toArray, List.set_cons_zero, List.set_cons_succ, i64_w, i32_w]
              rfl
            refine pure_ (i := 18) (N := some 82) (v := undef) (a' := ?_) #[true, true, true, true, true, true, true, true, true, true, true, true, true, true, true, true, true, true, true, false] rfl rfl (by kernel_rfl) (fun _ _ _ h => h) (Or.inr ⟨by rfl, rfl⟩) ?_ ?_
            rotate_left
            · simp only [Act.put, List.setIfInBounds_toArray, List.set_cons_zero, List.set_cons_succ, i64_w, i32_w]
              rfl
            refine pure_ (i := 19) (N := some 83) (v := ?_) (a' := ?_) #[true, true, true, true, true, true, true, true, true, true, true, true, true, true, true, true, true, true, true, true] rfl rfl (by kernel_rfl) (fun _ _ _ h => h) (Or.inl ⟨by rfl, ?_⟩) ?_ ?_
            rotate_left
            · intro w'
              go_simp
              with_reducible rfl
            rotate_left
            · simp only [Act.put, List.setIfInBounds_toArray, List.set_cons_zero, List.set_cons_succ, i64_w, i32_w]
              rfl
            refine done_ (by kernel_rfl) ?_
            have HW := Aside0.mk HW.out.drew
            clear hHeld d1
            obtain ⟨⟨f, t, xs⟩, hpj⟩ : ∃ pk, ps[0]? = some pk := ⟨_, List.getElem?_eq_getElem (by rw [HL.out]; exact hq1)⟩
            have hgood := HG.out _ (List.mem_of_getElem? hpj)
            have hxb : bytes xs := hgood.2.1
            have hxl : xs.length ≤ 140737488351232 := hgood.2.2
            have hft0 : 0 ≤ f ∧ f ≤ 1 ∧ f + t = 1 := hgood.1
            have PJ := Aside0.mk hpj
            have XB := Aside0.mk hxb
            have FT := Aside0.mk hft0
            have hps4 : ps.length ≤ 4096 := by rw [HL.out]; exact hq4
            have P4 := Aside0.mk hps4
            have JL := Aside0.mk (show 0 < ps.length by rw [HL.out]; exact hq1)
            clear hpj hgood hxb hft0 hps4
            go_wp2_with fail
            by_cases hbit : bit < 0 ∨ (0 ≤ bit ∧ (xs.length : Int) ≤ bit / 8)
            · refine (nflip_far p 2 ps 0 bit f t xs JL.out PJ.out hbit hb1 hb2 P4.out HW.out).mono ?_
              rintro e w4 ⟨rfl, rfl⟩
              go_wp2_with fail
              refine (ndeliver_ok p 2 ps 0 JL.out P4.out HW.out).mono ?_
              rintro e w5 ⟨f', t', A', n', c', xs', rfl, hp', hn', hc', h5⟩
              have e9 := hp'.out
              rw [PJ.out] at e9
              simp only [Option.some.injEq, Prod.mk.injEq] at e9
              obtain ⟨rfl, rfl, rfl⟩ := e9
              have hft := FT.out.2.2
              have hf0 := FT.out.1
              have hf1 := FT.out.2.1
              have H6 := Aside0.mk (h5.alloc (.cells #[.int .i64 f, .int .i64 t, .slice A' n' c'] 33))
              obtain ⟨s, hs⟩ : ∃ s, s = strOfNums xs := ⟨_, rfl⟩
              have hcv : ∀ W F', Hw w W (row (Kd.int .u8) 5 (.slice A' n' c') xs * F') → (convert 31 9 (.slice A' n' c')).run Try.prog W = .ok (.string s) W := fun W F' hW => by rw [hs]; exact hW.row_string Try.underlying31 Try.underlying5 Try.underlying9
              have hcv1 := hcv _ _ H6.out.right
              have hssz : s.size ≤ maxLen := by rw [hs, tx_size]; have h := HG.out _ (List.mem_of_getElem? PJ.out); have h2 : xs.length ≤ 140737488351232 := h.2.2; unfold maxLen; omega
              obtain ⟨cn, hcn⟩ : ∃ cn, cn = cntK (kOf xs) ps := ⟨_, rfl⟩
              have hcl : cn ≤ 4096 := by have := cntK_le (kOf xs) ps; rw [HL.out] at this; omega
              have hcp : 1 ≤ cn := by rw [hcn]; exact cntK_pos ps 0 f t xs PJ.out
              have hkey : keyOf Try.prog 9 (.string s) = some (kOf xs) := by rw [hs]; exact keyOf_string_mk Try.underlying9 (by rw [← hs]; exact hssz)
              have H7 := Aside0.mk ((H6.out.right.right).at (mapN mb g c))
              have hmap := H6.out.at (mapN mb g c)
              have hlook := map_look hmap (string_keyed Try.underlying9) Try.underlying29 (Try.zeroValue3 _) hkey
              rw [HI.out (kOf xs), ← hcn] at hlook
              obtain ⟨w8, hput, h8⟩ := map_put hmap (string_keyed Try.underlying9) Try.underlying29 (by unfold maxLen; omega) (.int .i64 ((cn : Int) - 1)) hkey
              have hI2 := MI_del HI.out 0 f t xs PJ.out
              rw [← hcn] at hI2
              have hsome : (g (kOf xs)).isSome = true := by
                have h := HI.out (kOf xs)
                cases hg : g (kOf xs) with
                | none => rw [hg, ← hcn] at h; simp at h; omega
                | some v => rfl
              rw [if_pos hsome] at h8
              have H8 := Aside0.mk (((h8.dropB w5.heap.size).dropR (Kd.int .u8) 5 (.slice A' n' c')).at (net p 2 (ps.eraseIdx 0)))
              have HI2 := Aside0.mk hI2
              have HG2 := Aside0.mk (Good_erase HG.out 0)
              have hel : (ps.eraseIdx 0).length = gk - 1 := by rw [List.length_eraseIdx, if_pos JL.out, HL.out]
              have EL := Aside0.mk hel
              clear hcv hs hssz hcn hkey hmap h8 hI2 hsome hel h5 H6 H7 HW hn' hc'
              go_wp2_with fail
              go_roundg (gk - 1)
              case measure => omega
              case rel => exact ⟨i + 1, c, _, _, by omega, hc, by go_num, EL, HG2, HI2, H8⟩
            · obtain ⟨b, rfl⟩ : ∃ b : Nat, bit = b := ⟨bit.toNat, by omega⟩
              obtain ⟨v, hv⟩ : ∃ v, xs[b / 8]? = some v := ⟨_, List.getElem?_eq_getElem (by omega)⟩
              have hvb := XB.out v (List.mem_of_getElem? hv)
              obtain ⟨fy1, fy2, fy3, fy4, fy5⟩ := flip8_at v (b % 8) hvb.1 hvb.2 (by omega)
              refine (nflip_ok p 2 ps 0 b f t xs v JL.out PJ.out hv hvb.1 hvb.2 (by omega) P4.out HW.out).mono ?_
              rintro e w3b ⟨rfl, h3b⟩
              have H3b := Aside0.mk h3b
              have V := Aside0.mk hv
              have F3 := Aside0.mk fy3
              have F4 := Aside0.mk fy4
              have F5 := Aside0.mk fy5
              have hb8 : b / 8 < xs.length := by omega
              have B8 := Aside0.mk hb8
              have XL := Aside0.mk hxl
              clear h3b hv hvb fy1 fy2 fy3 fy4 fy5 hb8 hxl HW hbit
              go_wp2_with fail
              refine (nflip_ok p 2 _ 0 b f t (xs.set (b / 8) (flip8 v (b % 8))) (flip8 v (b % 8)) (by rw [List.length_set]; exact JL.out) (List.getElem?_set_self JL.out) (List.getElem?_set_self B8.out) F3.out F4.out (by rw [List.length_set]; have := XL.out; omega) (by rw [List.length_set]; exact P4.out) H3b.out).mono ?_
              have hxx : (xs.set (b / 8) (flip8 v (b % 8))).set (b / 8) (flip8 (flip8 v (b % 8)) (b % 8)) = xs := by
                rw [F5.out, List.set_set]
                have := V.out
                rw [List.getElem?_eq_getElem B8.out] at this
                simp only [Option.some.injEq] at this
                rw [← this, List.set_getElem_self]
              have hpp : (ps.set 0 (f, t, xs.set (b / 8) (flip8 v (b % 8)))).set 0 (f, t, xs) = ps := by
                rw [List.set_set]
                have := PJ.out
                rw [List.getElem?_eq_getElem JL.out] at this
                simp only [Option.some.injEq] at this
                rw [← this, List.set_getElem_self]
              rw [hxx, hpp]
              clear hxx hpp
              rintro e w4 ⟨rfl, h4⟩
              have HW := Aside0.mk h4
              clear h4 H3b V F3 F4 F5
              go_wp2_with fail
              refine (ndeliver_ok p 2 ps 0 JL.out P4.out HW.out).mono ?_
              rintro e w5 ⟨f', t', A', n', c', xs', rfl, hp', hn', hc', h5⟩
              have e9 := hp'.out
              rw [PJ.out] at e9
              simp only [Option.some.injEq, Prod.mk.injEq] at e9
              obtain ⟨rfl, rfl, rfl⟩ := e9
              have hft := FT.out.2.2
              have hf0 := FT.out.1
              have hf1 := FT.out.2.1
              have H6 := Aside0.mk (h5.alloc (.cells #[.int .i64 f, .int .i64 t, .slice A' n' c'] 33))
              obtain ⟨s, hs⟩ : ∃ s, s = strOfNums xs := ⟨_, rfl⟩
              have hcv : ∀ W F', Hw w W (row (Kd.int .u8) 5 (.slice A' n' c') xs * F') → (convert 31 9 (.slice A' n' c')).run Try.prog W = .ok (.string s) W := fun W F' hW => by rw [hs]; exact hW.row_string Try.underlying31 Try.underlying5 Try.underlying9
              have hcv1 := hcv _ _ H6.out.right
              have hssz : s.size ≤ maxLen := by rw [hs, tx_size]; have h := HG.out _ (List.mem_of_getElem? PJ.out); have h2 : xs.length ≤ 140737488351232 := h.2.2; unfold maxLen; omega
              obtain ⟨cn, hcn⟩ : ∃ cn, cn = cntK (kOf xs) ps := ⟨_, rfl⟩
              have hcl : cn ≤ 4096 := by have := cntK_le (kOf xs) ps; rw [HL.out] at this; omega
              have hcp : 1 ≤ cn := by rw [hcn]; exact cntK_pos ps 0 f t xs PJ.out
              have hkey : keyOf Try.prog 9 (.string s) = some (kOf xs) := by rw [hs]; exact keyOf_string_mk Try.underlying9 (by rw [← hs]; exact hssz)
              have H7 := Aside0.mk ((H6.out.right.right).at (mapN mb g c))
              have hmap := H6.out.at (mapN mb g c)
              have hlook := map_look hmap (string_keyed Try.underlying9) Try.underlying29 (Try.zeroValue3 _) hkey
              rw [HI.out (kOf xs), ← hcn] at hlook
              obtain ⟨w8, hput, h8⟩ := map_put hmap (string_keyed Try.underlying9) Try.underlying29 (by unfold maxLen; omega) (.int .i64 ((cn : Int) - 1)) hkey
              have hI2 := MI_del HI.out 0 f t xs PJ.out
              rw [← hcn] at hI2
              have hsome : (g (kOf xs)).isSome = true := by
                have h := HI.out (kOf xs)
                cases hg : g (kOf xs) with
                | none => rw [hg, ← hcn] at h; simp at h; omega
                | some v => rfl
              rw [if_pos hsome] at h8
              have H8 := Aside0.mk (((h8.dropB w5.heap.size).dropR (Kd.int .u8) 5 (.slice A' n' c')).at (net p 2 (ps.eraseIdx 0)))
              have HI2 := Aside0.mk hI2
              have HG2 := Aside0.mk (Good_erase HG.out 0)
              have hel : (ps.eraseIdx 0).length = gk - 1 := by rw [List.length_eraseIdx, if_pos JL.out, HL.out]
              have EL := Aside0.mk hel
              clear hcv hs hssz hcn hkey hmap h8 hI2 hsome hel h5 H6 H7 HW hn' hc'
              go_wp2_with fail
              go_roundg (gk - 1)
              case measure => omega
              case rel => exact ⟨i + 1, c, _, _, by omega, hc, by go_num, EL, HG2, HI2, H8⟩
theorem netAll_many (A B : Option Addr) (n m ca cb : Nat) (bit : Int) (w : World) (hn : 4096 < n) :
    Calls Try.prog 3 #[.slice A n ca, .slice B m cb, .int .i64 bit] w fun e w' => e = .returned (.bool true) ∧ Below w.heap.size w w' := by
  have d1 : decide ((4096 : Int) < n) = true := decide_eq_true (by omega)
  have d2 : decide (4096 < n) = true := decide_eq_true hn
  go_enter Try.func3, Try.ntmps3
  go_wp2_with fail
  refine (nawake_ok (Hw.start w)).mono ?_
  rintro e w1 ⟨rfl, h1⟩
  have H1 := Aside0.mk h1
  clear h1
  go_wp2_with fail
  refine (nnew_ok 2 (by omega) (by omega) H1.out).mono ?_
  rintro e w2 ⟨p, rfl, h2⟩
  have H3 := Aside0.mk h2
  clear h2 H1
  go_wp2_with fail
  go_ret
  exact ⟨rfl, H3.out.below⟩
theorem i64_of_wf {x : Int} (h : (Lit.int .i64 x).wf = true) : -9223372036854775808 ≤ x ∧ x ≤ 9223372036854775807 := by
  simp [Lit.wf] at h
  first | omega | (simp [IntKind.min, IntKind.max, IntKind.bits, IntKind.signed] at h; omega)
theorem netAll_walk (A : Option Addr) (ca : Nat) (ts : List ByteArray) (B : Option Addr) (cb : Nat) (picks : List Int) (bit : Int) (w : World) (hA : Kd.string.C w A ts.length ts) (hca : ts.length ≤ ca) (sa : ts.length * 16 ≤ 140737488351232 ∧ ∀ s ∈ ts, s.size ≤ 140737488351232)
    (hB : (Kd.int .i64).C w B picks.length picks) (hcb : picks.length ≤ cb) (sb : picks.length * 8 ≤ 140737488351232 ∧ ∀ x ∈ picks, (Lit.int .i64 x).wf = true) (hbit : (Lit.int .i64 bit).wf = true) :
    Calls Try.prog 3 #[.slice A ts.length ca, .slice B picks.length cb, .int .i64 bit] w fun e w' => e = .returned (.bool true) ∧ Below w.heap.size w w' := by
  by_cases h : ts.length ≤ 4096
  · exact netAll_ok A B _ _ ca cb ts picks bit w hA hB h sa.2 (fun x hx => i64_of_wf (sb.2 x hx)) (i64_of_wf hbit).1 (i64_of_wf hbit).2
  · exact netAll_many A B _ _ ca cb bit w (by omega)
end Go.Proofs.Ytehbchggekbkkaa
