/- QueuePours' walk. -/
import Derived.Test.YtacnogbdifgmeaaQueueI
import Derived.Test.YtacnogbdifgmeaaQueueAwake
import Derived.Test.YtacnogbdifgmeaaWLast
set_option linter.unusedVariables false
set_option linter.unusedSimpArgs false
namespace Go.Proofs.Ytacnogbdifgmeaa
open Go.RowKit Go.Conc Go.Proofs.YtacnogbdifgmeaaW.PrintWords Go.Proofs.YtacnogbdifgmeaaW.PrintLast
attribute [local go_sem] mx2_int mn2_int mx_two mn_two

theorem qnewI_case (s : Int) {w0 w : World} {F : HP} (h : Hw w0 w F) :
    Calls Try.prog 22 #[.int .i64 s] w fun e w' => ∃ (p : Option Addr) (x : Int), e = .returned (.tuple #[.pointer p, .int .i64 x]) ∧ Hw w0 w' F := by
  by_cases h0 : s < 1 ∨ 4096 < s
  · refine (qnewI_bad s h0).mono ?_
    rintro e w' ⟨rfl, rfl⟩
    exact ⟨none, 1, rfl, h⟩
  · obtain ⟨c, rfl⟩ : ∃ c : Nat, s = c := ⟨s.toNat, by omega⟩
    refine (qnewI_ok c (by omega) (by omega) h).mono ?_
    rintro e w' ⟨p, rfl, h'⟩
    exact ⟨_, 0, rfl, h'.right⟩
set_option maxHeartbeats 1600000 in
set_option maxRecDepth 100000 in
theorem queuePours_bad0 (A : Option Addr) (n ca : Nat) (s0 s1 : Int) (w : World) (hs : s0 < 1 ∨ 4096 < s0) :
    Calls Try.prog 10 #[.slice A n ca, .agg #[.int .i64 s0, .int .i64 s1]] w fun e w' => e = .returned (.bool true) ∧ Below w.heap.size w w' := by
  have HB := Aside0.mk ((Hw.start w).alloc (.cells #[.int .i64 s0, .int .i64 s1] 64))
  obtain ⟨bx, hbx⟩ : ∃ bx, bx = w.heap.size := ⟨_, rfl⟩
  go_enter Try.func10, Try.ntmps10
  go_wp2_with fail
  rw [← hbx]
  rw [← hbx] at HB
  clear hbx
  refine (qawake_ok HB.out).mono ?_
  rintro e w1 ⟨rfl, h1⟩
  have H1 := Aside0.mk h1
  have k0 := h1.cell (i := 0) rfl
  have k1 := h1.cell (i := 1) rfl
  clear h1 HB
  go_wp2_with fail
  refine (qnewI_bad s0 hs).mono ?_
  rintro e w2 ⟨rfl, rfl⟩
  go_wp2_with fail
  refine (qnewI_case s1 H1.out).mono ?_
  rintro e w3 ⟨p, x, rfl, h3⟩
  have b3 := h3.below
  clear h3 H1 k0 k1
  go_wp2_with fail
  go_ret
  exact ⟨rfl, b3⟩
set_option maxHeartbeats 1600000 in
set_option maxRecDepth 100000 in
theorem queuePours_bad1 (A : Option Addr) (n ca : Nat) (s0 s1 : Int) (w : World) (h0 : 1 ≤ s0) (h0' : s0 ≤ 4096) (hs : s1 < 1 ∨ 4096 < s1) :
    Calls Try.prog 10 #[.slice A n ca, .agg #[.int .i64 s0, .int .i64 s1]] w fun e w' => e = .returned (.bool true) ∧ Below w.heap.size w w' := by
  obtain ⟨c0, rfl⟩ : ∃ c : Nat, s0 = c := ⟨s0.toNat, by omega⟩
  have HB := Aside0.mk ((Hw.start w).alloc (.cells #[.int .i64 c0, .int .i64 s1] 64))
  obtain ⟨bx, hbx⟩ : ∃ bx, bx = w.heap.size := ⟨_, rfl⟩
  go_enter Try.func10, Try.ntmps10
  go_wp2_with fail
  rw [← hbx]
  rw [← hbx] at HB
  clear hbx
  refine (qawake_ok HB.out).mono ?_
  rintro e w1 ⟨rfl, h1⟩
  have H1 := Aside0.mk h1
  have k0 := h1.cell (i := 0) rfl
  clear h1 HB
  go_wp2_with fail
  refine (qnewI_ok c0 (by omega) (by omega) H1.out).mono ?_
  rintro e w2 ⟨p, rfl, h2⟩
  have H2 := Aside0.mk h2.right
  have k1 := H2.out.cell (i := 1) rfl
  clear h2 H1 k0
  go_wp2_with fail
  refine (qnewI_bad s1 hs).mono ?_
  rintro e w3 ⟨rfl, rfl⟩
  go_wp2_with fail
  go_ret
  exact ⟨rfl, H2.out.below⟩

set_option maxHeartbeats 3200000 in
set_option maxRecDepth 100000 in
theorem queuePours_ok (A : Option Addr) (list : List Int) (n ca c0 c1 : Nat) (w : World) (hA : (Kd.int .i64).C w A n list) (hca : n ≤ ca) (hn : n ≤ 70368744177664) (h0 : 1 ≤ c0) (h0' : c0 ≤ 4096) (h1 : 1 ≤ c1) (h1' : c1 ≤ 4096) :
    Calls Try.prog 10 #[.slice A n ca, .agg #[.int .i64 c0, .int .i64 c1]] w fun e w' => e = .returned (.bool true) ∧ Below w.heap.size w w' := by
  have HA := Aside0.mk hA
  have HN := Aside0.mk hA.1
  clear hA
  have HB := Aside0.mk ((Hw.start w).alloc (.cells #[.int .i64 c0, .int .i64 c1] 64))
  obtain ⟨bx, hbx⟩ : ∃ bx, bx = w.heap.size := ⟨_, rfl⟩
  go_enter Try.func10, Try.ntmps10
  go_wp2_with fail
  rw [← hbx]
  rw [← hbx] at HB
  clear hbx
  refine (qawake_ok HB.out).mono ?_
  rintro e w1 ⟨rfl, h1⟩
  have H1 := Aside0.mk h1
  have k0 := h1.cell (i := 0) rfl
  clear h1 HB
  go_wp2_with fail
  refine (qnewI_ok c0 h0 h0' H1.out).mono ?_
  rintro e w2 ⟨p, rfl, h2⟩
  have H2 := Aside0.mk (h2.as (Q := blk bx (.cells #[.int .i64 c0, .int .i64 c1] 64) * (queI p c0 [] 0 * HP.emp)) (by ac_rfl))
  have k1 := H2.out.cell (i := 1) rfl
  clear h2 H1 k0
  go_wp2_with fail
  refine (qnewI_ok c1 h1 h1' H2.out).mono ?_
  rintro e w3 ⟨q, rfl, h3⟩
  have H3 := Aside0.mk (h3.as (Q := queI p c0 [] 0 * (queI q c1 [] 0 * (blk bx (.cells #[.int .i64 c0, .int .i64 c1] 64) * HP.emp))) (by ac_rfl))
  clear h3 H2 k1
  go_wp2_with fail
  obtain ⟨m, hm⟩ : ∃ m, m = min n c0 := ⟨_, rfl⟩
  have hm1 : m ≤ n ∧ m ≤ 4096 := by omega
  obtain ⟨hm1, hm2⟩ := hm1
  have M0 := Aside0.mk hm
  clear hm
  refine (qputI_ok p c0 [] list 0 A n ca HN.out.symm H3.out (by omega) (by omega) (fun w' h' => Kd.C_below HA.out h'.below) h0').mono ?_
  rintro e w4 ⟨m', hm', rfl, h4⟩
  obtain rfl : m' = m := by have := M0.out; simp only [List.length_nil] at hm'; omega
  obtain ⟨xs, hxs⟩ : ∃ xs, xs = list.take m' := ⟨_, rfl⟩
  have hxl : xs.length = m' := by have := HN.out; rw [hxs, List.length_take]; omega
  rw [List.nil_append, ← hxs] at h4
  obtain ⟨lo, hlo⟩ : ∃ lo : Int, lo = 0 + ((n - m' : Nat) : Int) := ⟨_, rfl⟩
  rw [← hlo] at h4
  have XS := Aside0.mk hxs
  have XL := Aside0.mk hxl
  have H4 := Aside0.mk h4
  clear h4 H3 hm' hxs hxl hlo
  go_wp2_with fail
  obtain ⟨k, hk⟩ : ∃ k, k = min m' c1 := ⟨_, rfl⟩
  refine (qpourI_ok p q c0 c1 xs [] lo 0 (queI_ne H4.out) H4.out (by rw [XL.out]; omega) (by simp) h1' (by omega) (by omega)).mono ?_
  rintro e w5 ⟨k', hk', rfl, h5⟩
  obtain rfl : k' = k := by simp only [List.length_nil, XL.out] at hk'; omega
  have H5 := Aside0.mk (h5.as (Q := blk bx (.cells #[.int .i64 c0, .int .i64 c1] 64) * (queI q c1 (xs.take k') 0 * (queI p c0 (xs.drop k') lo * HP.emp))) (by rw [List.nil_append]; ac_rfl))
  have k1 := H5.out.cell (i := 1) rfl
  have emin : (if c1 < m' then (c1 : Int) else m') = k' := by split <;> omega
  obtain ⟨r, hr⟩ : ∃ r, r = m' - k' := ⟨_, rfl⟩
  have hkm : k' ≤ m' := by omega
  have esub : (m' : Int) - k' = r := by omega
  have RR := Aside0.mk hr
  clear h5 H4 hk hk' hr
  go_wp2_with fail
  have hl1 : (xs.take k').length = k' := by have := XL.out; rw [List.length_take]; omega
  have hl2 : (xs.drop k').length = r := by have := XL.out; have := RR.out; rw [List.length_drop]; omega
  have L1 := Aside0.mk hl1
  have L2 := Aside0.mk hl2
  clear hl1 hl2
  have H6 := Aside0.mk (H5.out.as (Q := queI q c1 (xs.take k') 0 * (queI p c0 (xs.drop k') lo * (blk bx (.cells #[.int .i64 c0, .int .i64 c1] 64) * HP.emp))) (by ac_rfl))
  have H6' := Aside0.mk (H5.out.as (Q := queI p c0 (xs.drop k') lo * (queI q c1 (xs.take k') 0 * (blk bx (.cells #[.int .i64 c0, .int .i64 c1] 64) * HP.emp))) (by ac_rfl))
  clear H5 k1
  refine (qlenI_k q c1 (xs.take k') 0 k' L1.out H6.out).mono ?_
  rintro e w6 ⟨rfl, rfl⟩
  go_wp2_with fail
  refine (qlenI_k p c0 (xs.drop k') lo r L2.out H6'.out).mono ?_
  rintro e w6 ⟨rfl, rfl⟩
  go_wp2_with fail
  refine (qlostI_ok q c1 (xs.take k') 0 H6.out).mono ?_
  rintro e w6 ⟨rfl, rfl⟩
  go_wp2_with fail
  refine (qallI_ok q c1 (xs.take k') 0 H6.out (by rw [L1.out]; omega)).mono ?_
  rintro e w7 ⟨A1, d1, rfl, hd1, h7⟩
  have H7 := Aside0.mk (h7.as (Q := queI p c0 (xs.drop k') lo * (row (Kd.int .i64) 3 (.slice A1 (xs.take k').length d1) (xs.take k') * (queI q c1 [] 0 * (blk bx (.cells #[.int .i64 c0, .int .i64 c1] 64) * HP.emp)))) (by ac_rfl))
  rw [L1.out] at H7 hd1 ⊢
  clear h7 H6 H6'
  go_wp2_with fail
  refine (qallI_ok p c0 (xs.drop k') lo H7.out (by rw [L2.out]; omega)).mono ?_
  rintro e w8 ⟨A2, d2, rfl, hd2, h8⟩
  rw [L2.out] at h8 hd2 ⊢
  have H8 := Aside0.mk (h8.as (Q := row (Kd.int .i64) 3 (.slice A1 k' d1) (xs.take k') * (row (Kd.int .i64) 3 (.slice A2 r d2) (xs.drop k') * (queI p c0 [] lo * (queI q c1 [] 0 * (blk bx (.cells #[.int .i64 c0, .int .i64 c1] 64) * HP.emp))))) (by ac_rfl))
  have hC2 : (Kd.int .i64).C w8 A2 r (xs.drop k') := by
    obtain ⟨A9, c9, e9, _, hC⟩ := h8.row_reads
    injection e9 with e91 e92 e93
    subst e91
    rw [L2.out] at hC
    exact hC
  have HC2 := Aside0.mk hC2
  have hb8 : ((xs.take k').length + r) * 8 ≤ 140737488355328 := by have := L1.out; have := RR.out; omega
  have HB8 := Aside0.mk hb8
  clear h8 H7 hC2 hb8
  go_wp2_with (at_builtin; refine Hw.append_row (Value.int .i64) (0 : Int) rfl (.tmp 71) (.tmp 73) 40 3 (.int .i64 0) 8 rfl Try.underlying40 Try.infoI_a rfl (by decide) _ (xs.take k') (xs.drop k') _ r d2 rfl rfl H8.out HC2.out HB8.out ?_; intro A3 n3 d3 w9 hn3 hw9; obtain rfl : n3 = m' := (by have h2 := hn3.out; rw [List.take_append_drop, XL.out] at h2; exact h2); have H9 := Aside0.mk (hw9.as (Q := queI p c0 [] lo * (queI q c1 [] 0 * (row (Kd.int .i64) 3 (.slice A3 n3 d3) xs * (row (Kd.int .i64) 3 (.slice A2 r d2) (xs.drop k') * (blk bx (.cells #[.int .i64 c0, .int .i64 c1] 64) * HP.emp))))) (by rw [List.take_append_drop]; ac_rfl)); clear hn3 hw9)
  have H9' := Aside0.mk (H9.out.as (Q := queI q c1 [] 0 * (queI p c0 [] lo * (row (Kd.int .i64) 3 (.slice A3 n3 d3) xs * (row (Kd.int .i64) 3 (.slice A2 r d2) (xs.drop k') * (blk bx (.cells #[.int .i64 c0, .int .i64 c1] 64) * HP.emp))))) (by ac_rfl))
  clear H8 HC2 HB8 emin esub
  go_wp2_with fail
  refine (qlenI_k p c0 [] lo 0 rfl H9.out).mono ?_
  rintro e w10 ⟨rfl, rfl⟩
  go_wp2_with fail
  refine (qlenI_k q c1 [] 0 0 rfl H9'.out).mono ?_
  rintro e w10 ⟨rfl, rfl⟩
  go_wp2_with fail
  go_loopw [91] (fun i wr => ∃ j : Nat, j ≤ n3 ∧ i = .int .i64 j ∧ Aside0 (Hw w wr (queI p c0 [] lo * (queI q c1 [] 0 * (row (Kd.int .i64) 3 (.slice A3 n3 d3) xs * (row (Kd.int .i64) 3 (.slice A2 r d2) (xs.drop k') * (blk bx (.cells #[.int .i64 c0, .int .i64 c1] 64) * HP.emp))))))) (fun i _ => n3 - (intOf i).toNat)
  case atStart => exact ⟨0, Nat.zero_le _, rfl, ⟨H9.out⟩⟩
  case round =>
    obtain ⟨j, hj, rfl, HW⟩ := hrel
    clear H9 H9'
    by_cases hlt : j < n3
    · obtain ⟨ad, x, e1, hcell, hx⟩ := C_scalar_at (Kd.C_below HA.out HW.out.below) j (by omega)
      subst e1
      have HR := HW.out.as (Q := row (Kd.int .i64) 3 (.slice A3 n3 d3) xs * (queI p c0 [] lo * (queI q c1 [] 0 * (row (Kd.int .i64) 3 (.slice A2 r d2) (xs.drop k') * (blk bx (.cells #[.int .i64 c0, .int .i64 c1] 64) * HP.emp))))) (by ac_rfl)
      obtain ⟨bd, e2, hcell2, _, _⟩ := row_at HR j x (by rw [XS.out, List.getElem?_take, if_pos hlt]; exact hx.out)
      subst e2
      have hjn : j < n := by omega
      clear HR
      go_upto_region 17 with fail
      refine start_ (n := 9) (S := fun w' => w'.cell? (ad.add j) = some (.int .i64 x) ∧ w'.cell? (bd.add j) = some (.int .i64 x)) (ds := []) #[false, false, false, false, false, false, false, false, false] (by kernel_rfl) rfl rfl ⟨hcell, hcell2⟩ (fun hHeld => ?_)
      refine pure_ (i := 0) (N := some 94) (v := ?_) (a' := ?_) #[true, false, false, false, false, false, false, false, false] rfl rfl (by kernel_rfl) (fun _ _ _ h => h) (Or.inl ⟨by rfl, ?_⟩) ?_ ?_
      rotate_left
      · intro w'
        go_simp
        with_reducible rfl
      rotate_left
      · simp only [Act.put, List.setIfInBounds_toArray, List.set_cons_zero, List.set_cons_succ, i64_w, i32_w]
        rfl
      refine pure_ (i := 1) (N := some 95) (v := ?_) (a' := ?_) #[true, true, false, false, false, false, false, false, false] rfl rfl (by kernel_rfl) (fun _ _ _ h => h) (Or.inl ⟨by rfl, ?_⟩) ?_ ?_
      rotate_left
      · intro w'
        go_simp
        with_reducible rfl
      rotate_left
      · simp only [Act.put, List.setIfInBounds_toArray, List.set_cons_zero, List.set_cons_succ, i64_w, i32_w]
        rfl
      refine pure_ (i := 2) (N := some 96) (v := ?_) (a' := ?_) #[true, true, true, false, false, false, false, false, false] rfl rfl (by kernel_rfl) (fun _ _ _ h => h) (Or.inl ⟨by rfl, ?_⟩) ?_ ?_
      rotate_left
      · intro w'
        go_simp
        with_reducible rfl
      rotate_left
      · simp only [Act.put, List.setIfInBounds_toArray, List.set_cons_zero, List.set_cons_succ, i64_w, i32_w]
        rfl
      refine pure_ (i := 4) (N := some 98) (v := ?_) (a' := ?_) #[true, true, true, false, true, false, false, false, false] rfl rfl (by kernel_rfl) (fun _ _ _ h => h) (Or.inl ⟨by rfl, ?_⟩) ?_ ?_
      rotate_left
      · intro w'
        go_simp
        with_reducible rfl
      rotate_left
      · simp only [Act.put, List.setIfInBounds_toArray, List.set_cons_zero, List.set_cons_succ, i64_w, i32_w]
        rfl
      refine pure_ (i := 5) (N := some 99) (v := ?_) (a' := ?_) #[true, true, true, false, true, true, false, false, false] rfl rfl (by kernel_rfl) (fun _ _ _ h => h) (Or.inl ⟨by rfl, ?_⟩) ?_ ?_
      rotate_left
      · intro w'
        go_simp
        with_reducible rfl
      rotate_left
      · simp only [Act.put, List.setIfInBounds_toArray, List.set_cons_zero, List.set_cons_succ, i64_w, i32_w]
        rfl
      refine pure_ (i := 6) (N := some 100) (v := ?_) (a' := ?_) #[true, true, true, false, true, true, true, false, false] rfl rfl (by kernel_rfl) (fun _ _ _ h => h) (Or.inl ⟨by rfl, ?_⟩) ?_ ?_
      rotate_left
      · intro w'
        go_simp
        with_reducible rfl
      rotate_left
      · simp only [Act.put, List.setIfInBounds_toArray, List.set_cons_zero, List.set_cons_succ, i64_w, i32_w]
        rfl
      refine take_ (i := 3) (N := some 97) (v := ?_) (a' := ?_) #[true, true, true, true, true, true, true, false, false] rfl rfl (by kernel_rfl) (fun _ _ _ h => h) (Or.inl ⟨by rfl, ?_⟩) hHeld ?_ ?_
      rotate_left
      · rintro w' ⟨s0, s1⟩
        go_simp
        with_reducible rfl
      rotate_left
      · simp only [Act.put, List.setIfInBounds_toArray, List.set_cons_zero, List.set_cons_succ, i64_w, i32_w]
        rfl
      refine take_ (i := 7) (N := some 101) (v := ?_) (a' := ?_) #[true, true, true, true, true, true, true, true, false] rfl rfl (by kernel_rfl) (fun _ _ _ h => h) (Or.inl ⟨by rfl, ?_⟩) hHeld ?_ ?_
      rotate_left
      · rintro w' ⟨s0, s1⟩
        go_simp
        with_reducible rfl
      rotate_left
      · simp only [Act.put, List.setIfInBounds_toArray, List.set_cons_zero, List.set_cons_succ, i64_w, i32_w]
        rfl
      refine pure_ (i := 8) (N := some 102) (v := ?_) (a' := ?_) #[true, true, true, true, true, true, true, true, true] rfl rfl (by kernel_rfl) (fun _ _ _ h => h) (Or.inl ⟨by rfl, ?_⟩) ?_ ?_
      rotate_left
      · intro w'
        go_simp
        with_reducible rfl
      rotate_left
      · simp only [Act.put, List.setIfInBounds_toArray, List.set_cons_zero, List.set_cons_succ, i64_w, i32_w]
        rfl
      refine done_ (by kernel_rfl) ?_
      go_wp2_with fail
      go_roundw
      case rel => exact ⟨j + 1, by omega, by go_num, ⟨HW.out.drew⟩⟩
      case measure => simp [intOf]; omega
    · have HW' := Aside0.mk HW.out
      clear HW
      go_wp2_with fail
      refine (qpourI_ok p q c0 c1 [] [] lo 0 (queI_ne HW'.out) HW'.out (by simp) (by simp) h1' (by omega) (by omega)).mono ?_
      rintro e w11 ⟨k9, hk9, rfl, h11⟩
      obtain rfl : k9 = 0 := by simpa using hk9
      have b11 := h11.below
      clear h11 HW' hk9
      go_wp2_with fail
      go_ret
      exact ⟨rfl, b11⟩
theorem queuePours_walk (A : Option Addr) (ca : Nat) (list : List Int) (s0 s1 : Int) (w : World) (hA : (Kd.int .i64).C w A list.length list) (hca : list.length ≤ ca)
    (sa : list.length * 8 ≤ 140737488351232 ∧ ∀ x ∈ list, (Lit.int .i64 x).wf = true) (_ : (Lit.int .i64 s0).wf = true) (_ : (Lit.int .i64 s1).wf = true) :
    Calls Try.prog 10 #[.slice A list.length ca, .agg #[.int .i64 s0, .int .i64 s1]] w fun e w' => e = .returned (.bool true) ∧ Below w.heap.size w w' := by
  by_cases h0 : s0 < 1 ∨ 4096 < s0
  · exact queuePours_bad0 A list.length ca s0 s1 w h0
  · by_cases h1 : s1 < 1 ∨ 4096 < s1
    · exact queuePours_bad1 A list.length ca s0 s1 w (by omega) (by omega) h1
    · obtain ⟨c0, rfl⟩ : ∃ c : Nat, s0 = c := ⟨s0.toNat, by omega⟩
      obtain ⟨c1, rfl⟩ : ∃ c : Nat, s1 = c := ⟨s1.toNat, by omega⟩
      exact queuePours_ok A list list.length ca c0 c1 w hA hca (by omega) (by omega) (by omega) (by omega) (by omega)
end Go.Proofs.Ytacnogbdifgmeaa
