/- The bench of the oracle's statements answers true. -/
import Derived.Test.YtckdkbjobipniaaOrcJ
set_option linter.unusedVariables false
set_option linter.unusedSimpArgs false
namespace Go.Proofs.Ytckdkbjobipniaa
open Go.RowKit Go.Proofs.YtckdkbjobipniaaW.PrintWords Go.Proofs.YtckdkbjobipniaaW.PrintLast
theorem rec_le {m : Msg} {k : Nat} (h : (encMsg m).length ≤ k) : (recOf m).length ≤ 8 + k := by rw [recOf_len]; omega
section
variable {w0 w : World} {F : HP} {o p : Nat} {ms : List Msg} {room : Int}
theorem olast_on (h : OrcOn w0 w F o p ms room) : Calls Try.prog 43 #[.pointer (some ⟨o, 0, none⟩)] w fun e w' => e = .returned (.int .i64 (olast (oopen ms))) ∧ w' = w := by
  obtain ⟨q, h⟩ := h
  exact olast_run h
theorem oclosed_on (h : OrcOn w0 w F o p ms room) (hs : OrcMs ms room) : Calls Try.prog 45 #[.pointer (some ⟨o, 0, none⟩)] w fun e w' => e = .returned (.int .i64 (oclosed (oopen ms))) ∧ w' = w := by
  obtain ⟨q, h⟩ := h
  refine oclosed_run h (fun x hx => ?_)
  have h1 := (hs.iss x hx).2.2
  have h2 := (oopen_ok ms).pos x hx
  unfold i64r at h1
  omega
theorem orc_disk (h : OrcOn w0 w F o p ms room) : ∃ G, Hw w0 w (disk p (logB ms) ((logB ms).length : Int) room * (F * G)) := by
  obtain ⟨q, mb, A, n, c, g, h1, h2, H⟩ := h
  exact ⟨orcB o q mb A n c (olast (oopen ms)) * (mapHP Try.prog 2 mb g (oopen ms).iss.length * (orcC A n c (oopen ms) * logP q p (ms.length : Nat))), H.as (by ac_rfl)⟩
theorem ocrash_on (h : OrcOn w0 w F o p ms room) : Calls Try.prog 26 #[.pointer (some ⟨p, 0, none⟩), .int .i64 0] w fun e w' => e = .returned (.tuple #[]) ∧ Hw w0 w' (disk p (logB ms) ((logB ms).length : Int) room * F) := by
  obtain ⟨G, H⟩ := orc_disk h
  refine (crash_ok p (logB ms) _ room 0 H (by omega) (Int.le_refl _)).mono ?_
  rintro e w' ⟨rfl, h2⟩
  have e1 : (kept ((logB ms).length : Int) 0 ((logB ms).length : Int)).toNat = (logB ms).length := by
    unfold kept
    rw [if_neg (by decide), if_neg (by omega)]
    omega
  rw [e1, List.take_length] at h2
  exact ⟨rfl, (h2.as (Q := disk p (logB ms) ((logB ms).length : Int) room * F * G) (by ac_rfl)).left⟩
theorem OrcOn.below (h : OrcOn w0 w F o p ms room) : Below w0.heap.size w0 w := by
  obtain ⟨q, h⟩ := h
  exact h.below
end
theorem aw_new (id src rev : Int) (h1 : i64r id) (h2 : i64r src) (h3 : i64r rev) : (recOf (newM id src rev)).length ≤ 108 := rec_le (bareM_len 1 src 0 id rev 0 0 (by unfold i64r; omega) h2 (by unfold i64r; omega) h1 h3 (by unfold i64r; omega) (by unfold i64r; omega))
theorem aw_res (id : Int) (h1 : i64r id) : (recOf (resM id)).length ≤ 108 := rec_le (bareM_len 2 0 0 id 0 0 0 (by unfold i64r; omega) (by unfold i64r; omega) (by unfold i64r; omega) h1 (by unfold i64r; omega) (by unfold i64r; omega) (by unfold i64r; omega))
theorem i64_of {x : Int} (h : 0 ≤ x ∧ x ≤ 9) : i64r x := by unfold i64r; omega
theorem ask_one : oask [] 1000 7 1 = ([newM 7 1 1], 1, 0) := by
  unfold oask
  rw [if_neg (by decide), if_neg (by decide)]
  have e : olast (oopen []) + 1 = 1 := by decide
  rw [e, if_pos (addErr_good (newM_good (i64_of (by omega)) (i64_of (by omega)) (i64_of (by omega))) _ _ (by
    have := aw_new 7 1 1 (i64_of (by omega)) (i64_of (by omega)) (i64_of (by omega))
    rw [logB_nil]; simp only [List.length_nil]; omega))]
  rfl
theorem aw_l1 : (logB [newM 7 1 1]).length ≤ 108 := by
  have := aw_new 7 1 1 (i64_of (by omega)) (i64_of (by omega)) (i64_of (by omega))
  simp only [logB_cons, logB_nil, List.append_nil]
  omega
theorem aw_l2 : (logB [newM 7 1 1, newM 8 1 2]).length ≤ 216 := by
  have := aw_new 7 1 1 (i64_of (by omega)) (i64_of (by omega)) (i64_of (by omega))
  have := aw_new 8 1 2 (i64_of (by omega)) (i64_of (by omega)) (i64_of (by omega))
  simp only [logB_cons, logB_nil, List.append_nil, List.length_append]
  omega
theorem ask_two : oask [newM 7 1 1] 1000 8 1 = ([newM 7 1 1, newM 8 1 2], 2, 0) := by
  unfold oask
  rw [if_neg (by decide), if_neg (by decide)]
  have e : olast (oopen [newM 7 1 1]) + 1 = 2 := by decide
  rw [e, if_pos (addErr_good (newM_good (i64_of (by omega)) (i64_of (by omega)) (i64_of (by omega))) _ _ (by
    have := aw_new 8 1 2 (i64_of (by omega)) (i64_of (by omega)) (i64_of (by omega))
    have := aw_l1
    omega))]
  rfl
theorem ask_three : oask [newM 7 1 1, newM 8 1 2] 1000 8 2 = ([newM 7 1 1, newM 8 1 2], 2, 0) := by
  unfold oask
  rw [if_pos (by decide)]
  have e : orev (oopen [newM 7 1 1, newM 8 1 2]) 8 = 2 := by decide
  rw [e]
theorem settle_one : osettle [newM 7 1 1, newM 8 1 2] 1000 7 = ([newM 7 1 1, newM 8 1 2, resM 7], 0) := by
  unfold osettle
  rw [if_neg (by decide), if_neg (by decide), if_pos (addErr_good (resM_good (i64_of (by omega))) _ _ (by
    have := aw_res 7 (i64_of (by omega))
    have := aw_l2
    omega))]
  rfl
theorem closed_one : oclosed (oopen [newM 7 1 1, newM 8 1 2]) = 0 := by decide
theorem closed_two : oclosed (oopen [newM 7 1 1, newM 8 1 2, resM 7]) = 1 := by decide
theorem aw_ms1 : OrcMs [newM 7 1 1] 1000 := ⟨fun m hm => by
  obtain rfl : m = newM 7 1 1 := by simpa using hm
  exact newM_good (i64_of (by omega)) (i64_of (by omega)) (i64_of (by omega)), by have := aw_l1; omega, by decide, by decide⟩
theorem aw_ms2 : OrcMs [newM 7 1 1, newM 8 1 2] 1000 := ⟨fun m hm => by
  simp only [List.mem_cons, List.not_mem_nil, or_false] at hm
  rcases hm with rfl | rfl
  · exact newM_good (i64_of (by omega)) (i64_of (by omega)) (i64_of (by omega))
  · exact newM_good (i64_of (by omega)) (i64_of (by omega)) (i64_of (by omega)), by have := aw_l2; omega, by decide, by decide⟩
theorem aw_ms3 : OrcMs [newM 7 1 1, newM 8 1 2, resM 7] 1000 := ⟨fun m hm => by
  simp only [List.mem_cons, List.not_mem_nil, or_false] at hm
  rcases hm with rfl | rfl | rfl
  · exact newM_good (i64_of (by omega)) (i64_of (by omega)) (i64_of (by omega))
  · exact newM_good (i64_of (by omega)) (i64_of (by omega)) (i64_of (by omega))
  · exact resM_good (i64_of (by omega)), by
    have h1 := aw_new 7 1 1 (i64_of (by omega)) (i64_of (by omega)) (i64_of (by omega))
    have h2 := aw_new 8 1 2 (i64_of (by omega)) (i64_of (by omega)) (i64_of (by omega))
    have h3 := aw_res 7 (i64_of (by omega))
    simp only [logB_cons, logB_nil, List.append_nil, List.length_append]
    omega, by decide, by decide⟩
theorem ask_is {ms ms2 ms3 : List Msg} {room id src r k a b : Int} (h : oask ms room id src = (ms2, r, k)) (h2 : oask ms room id src = (ms3, a, b)) : ms2 = ms3 ∧ r = a ∧ k = b := by
  rw [h] at h2
  injection h2 with x y
  injection y with y z
  exact ⟨x, y, z⟩
theorem settle_is {ms ms2 ms3 : List Msg} {room id k b : Int} (h : osettle ms room id = (ms2, k)) (h2 : osettle ms room id = (ms3, b)) : ms2 = ms3 ∧ k = b := by
  rw [h] at h2
  injection h2 with x y
  exact ⟨x, y⟩
set_option maxHeartbeats 6400000 in
set_option maxRecDepth 100000 in
theorem oawake_ok (w : World) : Calls Try.prog 36 #[] w fun e w' => e = .returned (.bool true) ∧ Below w.heap.size w w' := by
  go_enter Try.func36, Try.ntmps36
  go_wp2_with fail
  refine (new_ok 1000 (by decide) (by decide) (Hw.start w)).mono ?_
  rintro e w1 ⟨p, rfl, h1⟩
  have H1 := Aside0.mk h1
  clear h1
  go_wp2_with fail
  refine (oopened_run (ms := []) H1.out (OrcMs.nil (by decide) (by decide))).mono ?_
  rintro e w2 ⟨o, rfl, h2⟩
  have H2 := Aside0.mk h2
  clear h2 H1
  go_wp2_with fail
  refine (oissue_run 7 1 H2.out (OrcMs.nil (by decide) (by decide)) (i64_of (by omega)) (i64_of (by omega))).mono ?_
  rintro e w3 ⟨ms3, r3, k3, rfl, hA, h3⟩
  obtain ⟨rfl, rfl, rfl⟩ := ask_is hA.out ask_one
  have H3 := Aside0.mk h3
  clear h3 hA H2
  go_wp2_with fail
  refine (oissue_run 8 1 H3.out aw_ms1 (i64_of (by omega)) (i64_of (by omega))).mono ?_
  rintro e w4 ⟨ms4, r4, k4, rfl, hA, h4⟩
  obtain ⟨rfl, rfl, rfl⟩ := ask_is hA.out ask_two
  have H4 := Aside0.mk h4
  clear h4 hA H3
  go_wp2_with fail
  refine (ocrash_on H4.out).mono ?_
  rintro e w5 ⟨rfl, h5⟩
  have H5 := Aside0.mk h5
  clear h5 H4
  go_wp2_with fail
  refine (oopened_run H5.out aw_ms2).mono ?_
  rintro e w6 ⟨o2, rfl, h6⟩
  have H6 := Aside0.mk h6
  clear h6 H5
  go_wp2_with fail
  refine (oissue_run 8 2 H6.out aw_ms2 (i64_of (by omega)) (i64_of (by omega))).mono ?_
  rintro e w7 ⟨ms7, r7, k7, rfl, hA, h7⟩
  obtain ⟨rfl, rfl, rfl⟩ := ask_is hA.out ask_three
  have H7 := Aside0.mk h7
  clear h7 hA H6
  go_wp2_with fail
  refine (oclosed_on H7.out aw_ms2).mono ?_
  rintro e w8 ⟨rfl, rfl⟩
  rw [closed_one]
  go_wp2_with fail
  refine (oresolve_run 7 H7.out aw_ms2 (i64_of (by omega))).mono ?_
  rintro e w9 ⟨ms9, k9, rfl, hA, h9⟩
  obtain ⟨rfl, rfl⟩ := settle_is hA.out settle_one
  have H9 := Aside0.mk h9
  clear h9 hA H7
  go_wp2_with fail
  refine (oclosed_on H9.out aw_ms3).mono ?_
  rintro e w10 ⟨rfl, rfl⟩
  rw [closed_two]
  go_wp2_with fail
  go_ret
  exact ⟨rfl, H9.out.below⟩
end Go.Proofs.Ytckdkbjobipniaa
