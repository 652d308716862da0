/- TokenOrder's walk. -/
import Derived.Test.YtloiclalcepbeaaTokenG
import Derived.Test.YtloiclalcepbeaaTokenR
set_option linter.unusedVariables false
set_option linter.unusedSimpArgs false
namespace Go.Proofs.Ytloiclalcepbeaa
open Go.RowKit Go.Proofs.YtloiclalcepbeaaW.PrintWords Go.Proofs.YtloiclalcepbeaaW.PrintLast
set_option maxHeartbeats 3200000 in
set_option maxRecDepth 100000 in
theorem tokenOrder_ok (n1 r1 n2 r2 : Int) (w : World) :
    Calls Try.prog 6 #[.agg #[.int .i64 n1, .int .i64 r1], .agg #[.int .i64 n2, .int .i64 r2]] w fun e w' => e = .returned (.bool true) ∧ Below w.heap.size w w' := by
  obtain ⟨t1, ht1⟩ : ∃ t1, t1 = strOfNums (ttext n1 r1) := ⟨_, rfl⟩
  obtain ⟨e1, he1⟩ : ∃ e1, e1 = terr n1 r1 := ⟨_, rfl⟩
  obtain ⟨t2, ht2⟩ : ∃ t2, t2 = strOfNums (ttext n2 r2) := ⟨_, rfl⟩
  obtain ⟨e2, he2⟩ : ∃ e2, e2 = terr n2 r2 := ⟨_, rfl⟩
  have P1 := Aside0.mk (fun W => tprint_ok n1 r1 W)
  rw [← ht1, ← he1] at P1
  have P2 := Aside0.mk (fun W => tprint_ok n2 r2 W)
  rw [← ht2, ← he2] at P2
  have C1 := Aside0.mk ht1
  have C2 := Aside0.mk ht2
  have E1 := Aside0.mk he1
  have E2 := Aside0.mk he2
  have H1 := Aside0.mk (((Hw.start w).alloc (.cells #[.int .i64 n1, .int .i64 r1] 23)).alloc (.cells #[.int .i64 n2, .int .i64 r2] 23))
  simp only [World.size_alloc] at H1
  clear ht1 he1 ht2 he2
  go_enter Try.func6, Try.ntmps6
  go_wp2_with fail
  refine (tawake_ok _).mono ?_
  rintro e w2 ⟨rfl, h2⟩
  have H2 := Aside0.mk (H1.out.from_below h2)
  have c0 := H2.out.cellAt w.heap.size 0 (v := .int .i64 n1) rfl
  have c1 := H2.out.cellAt w.heap.size 1 (v := .int .i64 r1) rfl
  clear h2 H1
  go_wp2_with fail
  refine (P1.out w2).mono ?_
  rintro e w3 ⟨rfl, h3⟩
  have H3 := Aside0.mk (H2.out.from_below h3)
  clear h3 H2 c0 c1 P1
  have d0 := H3.out.cellAt (w.heap.size + 1) 0 (v := .int .i64 n2) rfl
  have d1 := H3.out.cellAt (w.heap.size + 1) 1 (v := .int .i64 r2) rfl
  go_wp2_with fail
  refine (P2.out w3).mono ?_
  rintro e w4 ⟨rfl, h4⟩
  have H4 := Aside0.mk (H3.out.from_below h4)
  clear h4 H3 d0 d1 P2
  have c0 := H4.out.cellAt w.heap.size 0 (v := .int .i64 n1) rfl
  have c1 := H4.out.cellAt w.heap.size 1 (v := .int .i64 r1) rfl
  have d0 := H4.out.cellAt (w.heap.size + 1) 0 (v := .int .i64 n2) rfl
  have d1 := H4.out.cellAt (w.heap.size + 1) 1 (v := .int .i64 r2) rfl
  by_cases f1 : tfits n1 r1
  · by_cases f2 : tfits n2 r2
    · obtain ⟨a1, b1, rfl, rfl, ha1, hb1⟩ := tfits_nat f1
      obtain ⟨a2, b2, rfl, rfl, ha2, hb2⟩ := tfits_nat f2
      obtain ⟨k1, k2⟩ := ttext_fits ha1 hb1
      obtain ⟨k3, k4⟩ := ttext_fits ha2 hb2
      have q1 := C1.out
      have q2 := C2.out
      rw [k1] at q1
      rw [k3] at q2
      have q3 := E1.out.trans k2
      have q4 := E2.out.trans k4
      subst q3 q4
      clear f1 f2 k1 k2 k3 k4 E1 E2 C1 C2
      have z1 : t1.size = (low31 b1).length + 2 := by rw [q1, ttext_size]
      have z2 : t2.size = (low31 b2).length + 2 := by rw [q2, ttext_size]
      have l1 := low31_len11 b1 hb1
      have l2 := low31_len11 b2 hb2
      by_cases hsame : a1 = a2 ∧ b1 = b2
      · obtain ⟨rfl, rfl⟩ := hsame
        have ht : t1 = t2 := q1.trans q2.symm
        subst ht
        clear q1 q2 z2 l2 hb2 ha2
        go_wp2_with fail
        go_ret
        exact ⟨rfl, H4.out.below⟩
      · have hne : (t1.toList == t2.toList) = false := by rw [q1, q2]; exact ttext_eq a1 b1 a2 b2 ha1 hb1 ha2 hb2 hsame
        by_cases hb : b1 = b2
        · subst hb
          have ha : ¬ (a1 : Int) = a2 := by omega
          have ha' : ((a1 : Int) == a2) = false := by simpa using ha
          have hz : t1.size = t2.size := by rw [z1, z2]
          clear q1 q2 hsame
          go_wp2_with fail
          go_ret
          exact ⟨rfl, H4.out.below⟩
        · have hbb : ¬ (b1 : Int) = b2 := by omega
          have hbb' : ((b1 : Int) == b2) = false := by simpa using hbb
          have m1 := fun h => low31_mono b2 b1 h
          have m2 := fun h => low31_mono b1 b2 h
          obtain ⟨L1, hL1⟩ : ∃ L1, L1 = (low31 b1).length := ⟨_, rfl⟩
          obtain ⟨L2, hL2⟩ : ∃ L2, L2 = (low31 b2).length := ⟨_, rfl⟩
          obtain ⟨p1, hp1, s1⟩ := ttext_mid (P := Try.prog) 9 Try.underlying9 a1 b1 ((L1 : Int) + 1) (by rw [hL1])
          obtain ⟨p2, hp2, s2⟩ := ttext_mid (P := Try.prog) 9 Try.underlying9 a2 b2 ((L2 : Int) + 1) (by rw [hL2])
          rw [← q1] at s1
          rw [← q2] at s2
          have hless : L1 = L2 → Op.bytesLess p1.toList p2.toList = decide (b1 < b2) := fun h => by rw [hp1, hp2]; exact low_order b1 b2 (by rw [← hL1, ← hL2]; exact h)
          rw [← hL1] at z1 l1
          rw [← hL2] at z2 l2
          rw [← hL1, ← hL2] at m1 m2
          clear q1 q2 hsame hp1 hp2 hL1 hL2 hb1 hb2
          by_cases hL : L1 = L2
          · have hl := hless hL
            subst hL
            obtain ⟨w1, w1'⟩ := i64_in ((L1 : Int) + 1) (by omega) (by omega)
            have w3 : wrap64 ((L1 : Int) + 2 - 1) = (L1 : Int) + 1 := by rw [show (L1 : Int) + 2 - 1 = L1 + 1 by omega]; exact w1
            have w4' : IntKind.i64.wrap ((L1 : Int) + 2 - 1) = (L1 : Int) + 1 := by rw [show (L1 : Int) + 2 - 1 = L1 + 1 by omega]; exact w1'
            have hz : t1.size = t2.size := by rw [z1, z2]
            clear hless m1 m2
            by_cases hlt : b1 < b2
            · have i1 : decide ((b1 : Int) < b2) = true := decide_eq_true (by omega)
              have i2 : decide (b1 < b2) = true := decide_eq_true hlt
              rw [i2] at hl
              go_upto_region 13 with fail
              refine start_ (n := 12) (S := fun w' => True) (ds := []) #[false, false, false, false, false, false, false, false, false, false, false, false] (by kernel_rfl) rfl rfl trivial (fun hHeld => ?_)
              refine pure_ (i := 0) (N := some 74) (v := ?_) (a' := ?_) #[true, false, false, false, false, false, false, false, false, false, false, false] rfl rfl (by kernel_rfl) (fun _ _ _ h => h) (Or.inl ⟨by rfl, ?_⟩) ?_ ?_
              rotate_left
              · intro w'
                go_simp
                with_reducible rfl
              rotate_left
              · simp only [Act.put, List.setIfInBounds_toArray, List.set_cons_zero, List.set_cons_succ, i64_w, i32_w]
                rfl
              refine pure_ (i := 1) (N := some 75) (v := ?_) (a' := ?_) #[true, true, false, false, false, false, false, false, false, false, false, false] rfl rfl (by kernel_rfl) (fun _ _ _ h => h) (Or.inl ⟨by rfl, ?_⟩) ?_ ?_
              rotate_left
              · intro w'
                go_simp
                with_reducible rfl
              rotate_left
              · simp only [Act.put, List.setIfInBounds_toArray, List.set_cons_zero, List.set_cons_succ, i64_w, i32_w]
                rfl
              refine pure_ (i := 2) (N := some 76) (v := ?_) (a' := ?_) #[true, true, true, false, false, false, false, false, false, false, false, false] rfl rfl (by kernel_rfl) (fun _ _ _ h => h) (Or.inl ⟨by rfl, ?_⟩) ?_ ?_
              rotate_left
              · intro w'
                go_simp
                with_reducible rfl
              rotate_left
              · simp only [Act.put, List.setIfInBounds_toArray, List.set_cons_zero, List.set_cons_succ, i64_w, i32_w]
                rfl
              refine pure_ (i := 3) (N := some 77) (v := ?_) (a' := ?_) #[true, true, true, true, false, false, false, false, false, false, false, false] rfl rfl (by kernel_rfl) (fun _ _ _ h => h) (Or.inl ⟨by rfl, ?_⟩) ?_ ?_
              rotate_left
              · intro w'
                go_simp
                with_reducible rfl
              rotate_left
              · simp only [Act.put, List.setIfInBounds_toArray, List.set_cons_zero, List.set_cons_succ, i64_w, i32_w]
                rfl
              refine pure_ (i := 4) (N := some 78) (v := ?_) (a' := ?_) #[true, true, true, true, true, false, false, false, false, false, false, false] rfl rfl (by kernel_rfl) (fun _ _ _ h => h) (Or.inl ⟨by rfl, ?_⟩) ?_ ?_
              rotate_left
              · intro w'
                go_simp
                with_reducible rfl
              rotate_left
              · simp only [Act.put, List.setIfInBounds_toArray, List.set_cons_zero, List.set_cons_succ, i64_w, i32_w]
                rfl
              refine pure_ (i := 5) (N := some 79) (v := ?_) (a' := ?_) #[true, true, true, true, true, true, false, false, false, false, false, false] rfl rfl (by kernel_rfl) (fun _ _ _ h => h) (Or.inl ⟨by rfl, ?_⟩) ?_ ?_
              rotate_left
              · intro w'
                go_simp
                with_reducible rfl
              rotate_left
              · simp only [Act.put, List.setIfInBounds_toArray, List.set_cons_zero, List.set_cons_succ, i64_w, i32_w]
                rfl
              refine pure_ (i := 6) (N := some 80) (v := ?_) (a' := ?_) #[true, true, true, true, true, true, true, false, false, false, false, false] rfl rfl (by kernel_rfl) (fun _ _ _ h => h) (Or.inl ⟨by rfl, ?_⟩) ?_ ?_
              rotate_left
              · intro w'
                go_simp
                with_reducible rfl
              rotate_left
              · simp only [Act.put, List.setIfInBounds_toArray, List.set_cons_zero, List.set_cons_succ, i64_w, i32_w]
                rfl
              refine pure_ (i := 7) (N := some 81) (v := ?_) (a' := ?_) #[true, true, true, true, true, true, true, true, false, false, false, false] rfl rfl (by kernel_rfl) (fun _ _ _ h => h) (Or.inl ⟨by rfl, ?_⟩) ?_ ?_
              rotate_left
              · intro w'
                go_simp
                with_reducible rfl
              rotate_left
              · simp only [Act.put, List.setIfInBounds_toArray, List.set_cons_zero, List.set_cons_succ, i64_w, i32_w]
                rfl
              refine pure_ (i := 8) (N := some 82) (v := ?_) (a' := ?_) #[true, true, true, true, true, true, true, true, true, false, false, false] rfl rfl (by kernel_rfl) (fun _ _ _ h => h) (Or.inl ⟨by rfl, ?_⟩) ?_ ?_
              rotate_left
              · intro w'
                go_simp
                with_reducible rfl
              rotate_left
              · simp only [Act.put, List.setIfInBounds_toArray, List.set_cons_zero, List.set_cons_succ, i64_w, i32_w]
                rfl
              refine pure_ (i := 9) (N := some 83) (v := ?_) (a' := ?_) #[true, true, true, true, true, true, true, true, true, true, false, false] rfl rfl (by kernel_rfl) (fun _ _ _ h => h) (Or.inl ⟨by rfl, ?_⟩) ?_ ?_
              rotate_left
              · intro w'
                go_simp
                with_reducible rfl
              rotate_left
              · simp only [Act.put, List.setIfInBounds_toArray, List.set_cons_zero, List.set_cons_succ, i64_w, i32_w]
                rfl
              refine pure_ (i := 10) (N := some 9) (v := ?_) (a' := ?_) #[true, true, true, true, true, true, true, true, true, true, true, false] rfl rfl (by kernel_rfl) (fun _ _ _ h => h) (Or.inl ⟨by rfl, ?_⟩) ?_ ?_
              rotate_left
              · intro w'
                go_simp
                with_reducible rfl
              rotate_left
              · simp only [Act.put, List.setIfInBounds_toArray, List.set_cons_zero, List.set_cons_succ, i64_w, i32_w]
                rfl
              refine pure_ (i := 11) (N := some 10) (v := ?_) (a' := ?_) #[true, true, true, true, true, true, true, true, true, true, true, true] rfl rfl (by kernel_rfl) (fun _ _ _ h => h) (Or.inl ⟨by rfl, ?_⟩) ?_ ?_
              rotate_left
              · intro w'
                go_simp
                with_reducible rfl
              rotate_left
              · simp only [Act.put, List.setIfInBounds_toArray, List.set_cons_zero, List.set_cons_succ, i64_w, i32_w]
                rfl
              refine done_ (by kernel_rfl) ?_
              clear hHeld
              have c0 := H4.out.drew.cellAt w.heap.size 0 (v := .int .i64 a1) rfl
              have c1 := H4.out.drew.cellAt w.heap.size 1 (v := .int .i64 b1) rfl
              have d0 := H4.out.drew.cellAt (w.heap.size + 1) 0 (v := .int .i64 a2) rfl
              have d1 := H4.out.drew.cellAt (w.heap.size + 1) 1 (v := .int .i64 b2) rfl
              go_wp2_with fail
              go_ret
              exact ⟨rfl, H4.out.drew.below⟩
            · have i1 : decide ((b1 : Int) < b2) = false := decide_eq_false (by omega)
              have i2 : decide (b1 < b2) = false := decide_eq_false hlt
              rw [i2] at hl
              go_upto_region 13 with fail
              refine start_ (n := 12) (S := fun w' => True) (ds := []) #[false, false, false, false, false, false, false, false, false, false, false, false] (by kernel_rfl) rfl rfl trivial (fun hHeld => ?_)
              refine pure_ (i := 0) (N := some 74) (v := ?_) (a' := ?_) #[true, false, false, false, false, false, false, false, false, false, false, false] rfl rfl (by kernel_rfl) (fun _ _ _ h => h) (Or.inl ⟨by rfl, ?_⟩) ?_ ?_
              rotate_left
              · intro w'
                go_simp
                with_reducible rfl
              rotate_left
              · simp only [Act.put, List.setIfInBounds_toArray, List.set_cons_zero, List.set_cons_succ, i64_w, i32_w]
                rfl
              refine pure_ (i := 1) (N := some 75) (v := ?_) (a' := ?_) #[true, true, false, false, false, false, false, false, false, false, false, false] rfl rfl (by kernel_rfl) (fun _ _ _ h => h) (Or.inl ⟨by rfl, ?_⟩) ?_ ?_
              rotate_left
              · intro w'
                go_simp
                with_reducible rfl
              rotate_left
              · simp only [Act.put, List.setIfInBounds_toArray, List.set_cons_zero, List.set_cons_succ, i64_w, i32_w]
                rfl
              refine pure_ (i := 2) (N := some 76) (v := ?_) (a' := ?_) #[true, true, true, false, false, false, false, false, false, false, false, false] rfl rfl (by kernel_rfl) (fun _ _ _ h => h) (Or.inl ⟨by rfl, ?_⟩) ?_ ?_
              rotate_left
              · intro w'
                go_simp
                with_reducible rfl
              rotate_left
              · simp only [Act.put, List.setIfInBounds_toArray, List.set_cons_zero, List.set_cons_succ, i64_w, i32_w]
                rfl
              refine pure_ (i := 3) (N := some 77) (v := ?_) (a' := ?_) #[true, true, true, true, false, false, false, false, false, false, false, false] rfl rfl (by kernel_rfl) (fun _ _ _ h => h) (Or.inl ⟨by rfl, ?_⟩) ?_ ?_
              rotate_left
              · intro w'
                go_simp
                with_reducible rfl
              rotate_left
              · simp only [Act.put, List.setIfInBounds_toArray, List.set_cons_zero, List.set_cons_succ, i64_w, i32_w]
                rfl
              refine pure_ (i := 4) (N := some 78) (v := ?_) (a' := ?_) #[true, true, true, true, true, false, false, false, false, false, false, false] rfl rfl (by kernel_rfl) (fun _ _ _ h => h) (Or.inl ⟨by rfl, ?_⟩) ?_ ?_
              rotate_left
              · intro w'
                go_simp
                with_reducible rfl
              rotate_left
              · simp only [Act.put, List.setIfInBounds_toArray, List.set_cons_zero, List.set_cons_succ, i64_w, i32_w]
                rfl
              refine pure_ (i := 5) (N := some 79) (v := ?_) (a' := ?_) #[true, true, true, true, true, true, false, false, false, false, false, false] rfl rfl (by kernel_rfl) (fun _ _ _ h => h) (Or.inl ⟨by rfl, ?_⟩) ?_ ?_
              rotate_left
              · intro w'
                go_simp
                with_reducible rfl
              rotate_left
              · simp only [Act.put, List.setIfInBounds_toArray, List.set_cons_zero, List.set_cons_succ, i64_w, i32_w]
                rfl
              refine pure_ (i := 6) (N := some 80) (v := ?_) (a' := ?_) #[true, true, true, true, true, true, true, false, false, false, false, false] rfl rfl (by kernel_rfl) (fun _ _ _ h => h) (Or.inl ⟨by rfl, ?_⟩) ?_ ?_
              rotate_left
              · intro w'
                go_simp
                with_reducible rfl
              rotate_left
              · simp only [Act.put, List.setIfInBounds_toArray, List.set_cons_zero, List.set_cons_succ, i64_w, i32_w]
                rfl
              refine pure_ (i := 7) (N := some 81) (v := ?_) (a' := ?_) #[true, true, true, true, true, true, true, true, false, false, false, false] rfl rfl (by kernel_rfl) (fun _ _ _ h => h) (Or.inl ⟨by rfl, ?_⟩) ?_ ?_
              rotate_left
              · intro w'
                go_simp
                with_reducible rfl
              rotate_left
              · simp only [Act.put, List.setIfInBounds_toArray, List.set_cons_zero, List.set_cons_succ, i64_w, i32_w]
                rfl
              refine pure_ (i := 8) (N := some 82) (v := ?_) (a' := ?_) #[true, true, true, true, true, true, true, true, true, false, false, false] rfl rfl (by kernel_rfl) (fun _ _ _ h => h) (Or.inl ⟨by rfl, ?_⟩) ?_ ?_
              rotate_left
              · intro w'
                go_simp
                with_reducible rfl
              rotate_left
              · simp only [Act.put, List.setIfInBounds_toArray, List.set_cons_zero, List.set_cons_succ, i64_w, i32_w]
                rfl
              refine pure_ (i := 9) (N := some 83) (v := ?_) (a' := ?_) #[true, true, true, true, true, true, true, true, true, true, false, false] rfl rfl (by kernel_rfl) (fun _ _ _ h => h) (Or.inl ⟨by rfl, ?_⟩) ?_ ?_
              rotate_left
              · intro w'
                go_simp
                with_reducible rfl
              rotate_left
              · simp only [Act.put, List.setIfInBounds_toArray, List.set_cons_zero, List.set_cons_succ, i64_w, i32_w]
                rfl
              refine pure_ (i := 10) (N := some 9) (v := ?_) (a' := ?_) #[true, true, true, true, true, true, true, true, true, true, true, false] rfl rfl (by kernel_rfl) (fun _ _ _ h => h) (Or.inl ⟨by rfl, ?_⟩) ?_ ?_
              rotate_left
              · intro w'
                go_simp
                with_reducible rfl
              rotate_left
              · simp only [Act.put, List.setIfInBounds_toArray, List.set_cons_zero, List.set_cons_succ, i64_w, i32_w]
                rfl
              refine pure_ (i := 11) (N := some 10) (v := ?_) (a' := ?_) #[true, true, true, true, true, true, true, true, true, true, true, true] rfl rfl (by kernel_rfl) (fun _ _ _ h => h) (Or.inl ⟨by rfl, ?_⟩) ?_ ?_
              rotate_left
              · intro w'
                go_simp
                with_reducible rfl
              rotate_left
              · simp only [Act.put, List.setIfInBounds_toArray, List.set_cons_zero, List.set_cons_succ, i64_w, i32_w]
                rfl
              refine done_ (by kernel_rfl) ?_
              clear hHeld
              have c0 := H4.out.drew.cellAt w.heap.size 0 (v := .int .i64 a1) rfl
              have c1 := H4.out.drew.cellAt w.heap.size 1 (v := .int .i64 b1) rfl
              have d0 := H4.out.drew.cellAt (w.heap.size + 1) 0 (v := .int .i64 a2) rfl
              have d1 := H4.out.drew.cellAt (w.heap.size + 1) 1 (v := .int .i64 b2) rfl
              go_wp2_with fail
              go_ret
              exact ⟨rfl, H4.out.drew.below⟩
          · clear hless s1 s2
            have hzz : ¬ ((L1 : Int) + 2 = (L2 : Int) + 2) := by omega
            have hzz' : (((L1 : Int) + 2) == ((L2 : Int) + 2)) = false := by simpa using hzz
            have hz3 : ((t1.size : Int) == (t2.size : Int)) = false := by rw [beq_eq_false_iff_ne, z1, z2]; omega
            have hz4 : ¬ t1.size = t2.size := by rw [z1, z2]; omega
            by_cases hlt : b1 < b2
            · have hLt : L1 < L2 := by have := m1 (by omega); omega
              have i1 : decide ((b1 : Int) < b2) = true := decide_eq_true (by omega)
              have i2 : decide (b1 < b2) = true := decide_eq_true hlt
              have j1 : decide ((t1.size : Int) < t2.size) = true := decide_eq_true (by omega)
              have j2 : decide (t1.size < t2.size) = true := decide_eq_true (by omega)
              clear m1 m2 z1 z2 hzz hzz'
              go_wp2_with fail
              go_ret
              exact ⟨rfl, H4.out.below⟩
            · have hLt : L2 < L1 := by have := m2 (by omega); omega
              have i1 : decide ((b1 : Int) < b2) = false := decide_eq_false (by omega)
              have i2 : decide (b1 < b2) = false := decide_eq_false hlt
              have j1 : decide ((t1.size : Int) < t2.size) = false := decide_eq_false (by omega)
              have j2 : decide (t1.size < t2.size) = false := decide_eq_false (by omega)
              clear m1 m2 z1 z2 hzz hzz'
              go_wp2_with fail
              go_ret
              exact ⟨rfl, H4.out.below⟩
    · have q := E2.out.trans (if_neg f2)
      have q0 := E1.out.trans (if_pos f1)
      subst q q0
      clear E1 E2 C1 C2
      go_wp2_with fail
      go_ret
      exact ⟨rfl, H4.out.below⟩
  · have q := E1.out.trans (if_neg f1)
    subst q
    clear E1 E2 C1 C2
    go_wp2_with fail
    go_ret
    exact ⟨rfl, H4.out.below⟩
theorem tokenOrder_walk (a b c d : Int) (w : World) (_ : (Lit.int .i64 a).wf = true) (_ : (Lit.int .i64 b).wf = true) (_ : (Lit.int .i64 c).wf = true) (_ : (Lit.int .i64 d).wf = true) :
    Calls Try.prog 6 #[.agg #[.int .i64 a, .int .i64 b], .agg #[.int .i64 c, .int .i64 d]] w fun e w' => e = .returned (.bool true) ∧ Below w.heap.size w w' := tokenOrder_ok a b c d w
end Go.Proofs.Ytloiclalcepbeaa
