/- CodeApart's walk. Printed by wip/gen/codeapart.py. -/
import Derived.Test.YtloiclalcepbeaaCodeF
import Derived.Test.YtloiclalcepbeaaCodeA
import Derived.Test.YtloiclalcepbeaaCodeK
set_option linter.unusedVariables false
set_option linter.unusedSimpArgs false
namespace Go.Proofs.Ytloiclalcepbeaa
open Go.RowKit Go.Proofs.YtloiclalcepbeaaW.PrintWords Go.Proofs.YtloiclalcepbeaaW.PrintLast
set_option maxHeartbeats 12800000 in
set_option maxRecDepth 100000 in
theorem codeApart_ok (a b : Msg) (s1 s2 s3 s4 r1 r2 r3 r4 : Hdr) (w : World) (hA : MsgC w a s1 s2 s3 s4) (okA : MsgOk a) (hB : MsgC w b r1 r2 r3 r4) (okB : MsgOk b) :
    Calls Try.prog 14 #[msgV a s1 s2 s3 s4, msgV b r1 r2 r3 r4] w fun e w' => e = .returned (.bool true) ∧ Below w.heap.size w w' := by
  obtain ⟨A1, nA1, cA1⟩ := s1
  obtain ⟨A2, nA2, cA2⟩ := s2
  obtain ⟨A3, nA3, cA3⟩ := s3
  obtain ⟨A4, nA4, cA4⟩ := s4
  obtain ⟨B1, nB1, cB1⟩ := r1
  obtain ⟨B2, nB2, cB2⟩ := r2
  obtain ⟨B3, nB3, cB3⟩ := r3
  obtain ⟨B4, nB4, cB4⟩ := r4
  have MA := Aside0.mk hA
  have OA := Aside0.mk okA
  have MB := Aside0.mk hB
  have OB := Aside0.mk okB
  have H1 := Aside0.mk (((Hw.start w).alloc (.cells #[.int .i64 a.kind, .int .i64 a.src, .int .i64 a.dst, .int .i64 a.id, .int .i64 a.rev, .int .i64 a.epoch, .int .i64 a.slot, .bool a.flag, .slice A1 nA1 cA1, .slice A2 nA2 cA2, .slice A3 nA3 cA3, .slice A4 nA4 cA4] 53)).alloc (.cells #[.int .i64 b.kind, .int .i64 b.src, .int .i64 b.dst, .int .i64 b.id, .int .i64 b.rev, .int .i64 b.epoch, .int .i64 b.slot, .bool b.flag, .slice B1 nB1 cB1, .slice B2 nB2 cB2, .slice B3 nB3 cB3, .slice B4 nB4 cB4] 53))
  have H2 : Aside0 (Hw w _ (blk (w.heap.size + 1) (.cells #[.int .i64 b.kind, .int .i64 b.src, .int .i64 b.dst, .int .i64 b.id, .int .i64 b.rev, .int .i64 b.epoch, .int .i64 b.slot, .bool b.flag, .slice B1 nB1 cB1, .slice B2 nB2 cB2, .slice B3 nB3 cB3, .slice B4 nB4 cB4] 53) * (blk w.heap.size (.cells #[.int .i64 a.kind, .int .i64 a.src, .int .i64 a.dst, .int .i64 a.id, .int .i64 a.rev, .int .i64 a.epoch, .int .i64 a.slot, .bool a.flag, .slice A1 nA1 cA1, .slice A2 nA2 cA2, .slice A3 nA3 cA3, .slice A4 nA4 cA4] 53) * HP.emp))) := ⟨by have h := H1.out; rw [show (w.alloc (.cells #[.int .i64 a.kind, .int .i64 a.src, .int .i64 a.dst, .int .i64 a.id, .int .i64 a.rev, .int .i64 a.epoch, .int .i64 a.slot, .bool a.flag, .slice A1 nA1 cA1, .slice A2 nA2 cA2, .slice A3 nA3 cA3, .slice A4 nA4 cA4] 53)).heap.size = w.heap.size + 1 from by simp only [World.alloc, Array.size_push]] at h; exact h⟩
  clear hA okA hB okB H1
  show Calls Try.prog 14 #[.agg #[.int .i64 a.kind, .int .i64 a.src, .int .i64 a.dst, .int .i64 a.id, .int .i64 a.rev, .int .i64 a.epoch, .int .i64 a.slot, .bool a.flag, .slice A1 nA1 cA1, .slice A2 nA2 cA2, .slice A3 nA3 cA3, .slice A4 nA4 cA4], .agg #[.int .i64 b.kind, .int .i64 b.src, .int .i64 b.dst, .int .i64 b.id, .int .i64 b.rev, .int .i64 b.epoch, .int .i64 b.slot, .bool b.flag, .slice B1 nB1 cB1, .slice B2 nB2 cB2, .slice B3 nB3 cB3, .slice B4 nB4 cB4]] w _
  go_enter Try.func14, Try.ntmps14
  go_wp2_with fail
  refine (cawake_ok _).mono ?_
  rintro e w1 ⟨rfl, h1⟩
  have H3 := Aside0.mk (H2.out.from_below h1)
  clear H2 h1
  have k0 := H3.out.cellAt w.heap.size 0 (v := .int .i64 a.kind) rfl
  have k1 := H3.out.cellAt w.heap.size 1 (v := .int .i64 a.src) rfl
  have k2 := H3.out.cellAt w.heap.size 2 (v := .int .i64 a.dst) rfl
  have k3 := H3.out.cellAt w.heap.size 3 (v := .int .i64 a.id) rfl
  have k4 := H3.out.cellAt w.heap.size 4 (v := .int .i64 a.rev) rfl
  have k5 := H3.out.cellAt w.heap.size 5 (v := .int .i64 a.epoch) rfl
  have k6 := H3.out.cellAt w.heap.size 6 (v := .int .i64 a.slot) rfl
  have k7 := H3.out.cellAt w.heap.size 7 (v := .bool a.flag) rfl
  have k8 := H3.out.cellAt w.heap.size 8 (v := .slice A1 nA1 cA1) rfl
  have k9 := H3.out.cellAt w.heap.size 9 (v := .slice A2 nA2 cA2) rfl
  have k10 := H3.out.cellAt w.heap.size 10 (v := .slice A3 nA3 cA3) rfl
  have k11 := H3.out.cellAt w.heap.size 11 (v := .slice A4 nA4 cA4) rfl
  have EN := Aside0.mk (encode_ok a A1 A2 A3 A4 nA1 nA2 nA3 nA4 cA1 cA2 cA3 cA4 w1 (MA.out.below H3.out.below) OA.out)
  go_wp2_with fail
  refine EN.out.mono ?_
  rintro e w2 ⟨A, n, c, rfl, hne, g⟩
  have H4 := Aside0.mk (H3.out.from_below g.below)
  have G1 := Aside0.mk g
  have N1 := Aside0.mk hne
  have q0 := H4.out.cellAt (w.heap.size + 1) 0 (v := .int .i64 b.kind) rfl
  have q1 := H4.out.cellAt (w.heap.size + 1) 1 (v := .int .i64 b.src) rfl
  have q2 := H4.out.cellAt (w.heap.size + 1) 2 (v := .int .i64 b.dst) rfl
  have q3 := H4.out.cellAt (w.heap.size + 1) 3 (v := .int .i64 b.id) rfl
  have q4 := H4.out.cellAt (w.heap.size + 1) 4 (v := .int .i64 b.rev) rfl
  have q5 := H4.out.cellAt (w.heap.size + 1) 5 (v := .int .i64 b.epoch) rfl
  have q6 := H4.out.cellAt (w.heap.size + 1) 6 (v := .int .i64 b.slot) rfl
  have q7 := H4.out.cellAt (w.heap.size + 1) 7 (v := .bool b.flag) rfl
  have q8 := H4.out.cellAt (w.heap.size + 1) 8 (v := .slice B1 nB1 cB1) rfl
  have q9 := H4.out.cellAt (w.heap.size + 1) 9 (v := .slice B2 nB2 cB2) rfl
  have q10 := H4.out.cellAt (w.heap.size + 1) 10 (v := .slice B3 nB3 cB3) rfl
  have q11 := H4.out.cellAt (w.heap.size + 1) 11 (v := .slice B4 nB4 cB4) rfl
  clear k0 k1 k2 k3 k4 k5 k6 k7 k8 k9 k10 k11 H3 g hne EN
  have EN := Aside0.mk (encode_ok b B1 B2 B3 B4 nB1 nB2 nB3 nB4 cB1 cB2 cB3 cB4 w2 (MB.out.below H4.out.below) OB.out)
  go_wp2_with fail
  refine EN.out.mono ?_
  rintro e w3 ⟨B, n2, c2, rfl, hne, g⟩
  have H5 := Aside0.mk (H4.out.from_below g.below)
  have G2 := Aside0.mk g
  have N2 := Aside0.mk hne
  have G1' := Aside0.mk (G1.out.from_below g.below)
  clear q0 q1 q2 q3 q4 q5 q6 q7 q8 q9 q10 q11 H4 g hne EN G1
  have BE := Aside0.mk H5.out.below
  by_cases ga : MsgFits a ∧ (encMsg a).length ≤ 16384
  · obtain ⟨t1, t2⟩ := encGood_true ga.1 ga.2
    rw [t2]
    rw [t1] at G1' N1
    by_cases gb : MsgFits b ∧ (encMsg b).length ≤ 16384
    · obtain ⟨u1, u2⟩ := encGood_true gb.1 gb.2
      rw [u2]
      rw [u1] at G2 N2
      clear t1 t2 u1 u2
      have FA := Aside0.mk ga
      have FB := Aside0.mk gb
      clear ga gb
      by_cases hab : a = b
      · obtain ⟨s, hs⟩ : ∃ s, s = strOfNums (encMsg a) := ⟨_, rfl⟩
        have ht : s = strOfNums (encMsg b) := by rw [hs, hab]
        have HAB := Aside0.mk hab
        clear hab
        have k0 := H5.out.cellAt w.heap.size 0 (v := .int .i64 a.kind) rfl
        have k1 := H5.out.cellAt w.heap.size 1 (v := .int .i64 a.src) rfl
        have k2 := H5.out.cellAt w.heap.size 2 (v := .int .i64 a.dst) rfl
        have k3 := H5.out.cellAt w.heap.size 3 (v := .int .i64 a.id) rfl
        have k4 := H5.out.cellAt w.heap.size 4 (v := .int .i64 a.rev) rfl
        have k5 := H5.out.cellAt w.heap.size 5 (v := .int .i64 a.epoch) rfl
        have k6 := H5.out.cellAt w.heap.size 6 (v := .int .i64 a.slot) rfl
        have k7 := H5.out.cellAt w.heap.size 7 (v := .bool a.flag) rfl
        have k8 := H5.out.cellAt w.heap.size 8 (v := .slice A1 nA1 cA1) rfl
        have k9 := H5.out.cellAt w.heap.size 9 (v := .slice A2 nA2 cA2) rfl
        have k10 := H5.out.cellAt w.heap.size 10 (v := .slice A3 nA3 cA3) rfl
        have k11 := H5.out.cellAt w.heap.size 11 (v := .slice A4 nA4 cA4) rfl
        have k12 := H5.out.cellAt (w.heap.size + 1) 0 (v := .int .i64 b.kind) rfl
        have k13 := H5.out.cellAt (w.heap.size + 1) 1 (v := .int .i64 b.src) rfl
        have k14 := H5.out.cellAt (w.heap.size + 1) 2 (v := .int .i64 b.dst) rfl
        have k15 := H5.out.cellAt (w.heap.size + 1) 3 (v := .int .i64 b.id) rfl
        have k16 := H5.out.cellAt (w.heap.size + 1) 4 (v := .int .i64 b.rev) rfl
        have k17 := H5.out.cellAt (w.heap.size + 1) 5 (v := .int .i64 b.epoch) rfl
        have k18 := H5.out.cellAt (w.heap.size + 1) 6 (v := .int .i64 b.slot) rfl
        have k19 := H5.out.cellAt (w.heap.size + 1) 7 (v := .bool b.flag) rfl
        have k20 := H5.out.cellAt (w.heap.size + 1) 8 (v := .slice B1 nB1 cB1) rfl
        have k21 := H5.out.cellAt (w.heap.size + 1) 9 (v := .slice B2 nB2 cB2) rfl
        have k22 := H5.out.cellAt (w.heap.size + 1) 10 (v := .slice B3 nB3 cB3) rfl
        have k23 := H5.out.cellAt (w.heap.size + 1) 11 (v := .slice B4 nB4 cB4) rfl
        have cA := G1'.out.drew.row_string Try.underlying35 Try.underlying5 Try.underlying9
        rw [← hs] at cA
        have cB := G2.out.drew.row_string Try.underlying35 Try.underlying5 Try.underlying9
        rw [← ht] at cB
        go_upto_region 7 with fail
        refine start_ (n := 10) (S := fun w' => w'.cell? ⟨w.heap.size, 0, none⟩ = some (.int .i64 a.kind) ∧ w'.cell? ⟨w.heap.size, 1, none⟩ = some (.int .i64 a.src) ∧ w'.cell? ⟨w.heap.size, 2, none⟩ = some (.int .i64 a.dst) ∧ w'.cell? ⟨w.heap.size, 3, none⟩ = some (.int .i64 a.id) ∧ w'.cell? ⟨w.heap.size, 4, none⟩ = some (.int .i64 a.rev) ∧ w'.cell? ⟨w.heap.size, 5, none⟩ = some (.int .i64 a.epoch) ∧ w'.cell? ⟨w.heap.size, 6, none⟩ = some (.int .i64 a.slot) ∧ w'.cell? ⟨w.heap.size, 7, none⟩ = some (.bool a.flag) ∧ w'.cell? ⟨w.heap.size, 8, none⟩ = some (.slice A1 nA1 cA1) ∧ w'.cell? ⟨w.heap.size, 9, none⟩ = some (.slice A2 nA2 cA2) ∧ w'.cell? ⟨w.heap.size, 10, none⟩ = some (.slice A3 nA3 cA3) ∧ w'.cell? ⟨w.heap.size, 11, none⟩ = some (.slice A4 nA4 cA4) ∧ w'.cell? ⟨w.heap.size + 1, 0, none⟩ = some (.int .i64 b.kind) ∧ w'.cell? ⟨w.heap.size + 1, 1, none⟩ = some (.int .i64 b.src) ∧ w'.cell? ⟨w.heap.size + 1, 2, none⟩ = some (.int .i64 b.dst) ∧ w'.cell? ⟨w.heap.size + 1, 3, none⟩ = some (.int .i64 b.id) ∧ w'.cell? ⟨w.heap.size + 1, 4, none⟩ = some (.int .i64 b.rev) ∧ w'.cell? ⟨w.heap.size + 1, 5, none⟩ = some (.int .i64 b.epoch) ∧ w'.cell? ⟨w.heap.size + 1, 6, none⟩ = some (.int .i64 b.slot) ∧ w'.cell? ⟨w.heap.size + 1, 7, none⟩ = some (.bool b.flag) ∧ w'.cell? ⟨w.heap.size + 1, 8, none⟩ = some (.slice B1 nB1 cB1) ∧ w'.cell? ⟨w.heap.size + 1, 9, none⟩ = some (.slice B2 nB2 cB2) ∧ w'.cell? ⟨w.heap.size + 1, 10, none⟩ = some (.slice B3 nB3 cB3) ∧ w'.cell? ⟨w.heap.size + 1, 11, none⟩ = some (.slice B4 nB4 cB4) ∧ (convert 35 9 (.slice A n c)).run Try.prog w' = .ok (.string s) w' ∧ (convert 35 9 (.slice B n2 c2)).run Try.prog w' = .ok (.string s) w') (ds := []) #[false, false, false, false, false, false, false, false, false, false] (by kernel_rfl) rfl rfl ⟨k0, k1, k2, k3, k4, k5, k6, k7, k8, k9, k10, k11, k12, k13, k14, k15, k16, k17, k18, k19, k20, k21, k22, k23, cA, cB⟩ (fun hHeld => ?_)
        refine pure_ (i := 0) (N := some 27) (v := ?_) (a' := ?_) #[true, false, false, false, false, false, false, false, false, false] rfl rfl (by kernel_rfl) (fun _ _ _ h => h) (Or.inl ⟨by rfl, ?_⟩) ?_ ?_
        rotate_left
        · intro w'
          go_simp
          with_reducible rfl
        rotate_left
        · simp only [Act.put, List.setIfInBounds_toArray, List.set_cons_zero, List.set_cons_succ, i64_w, i32_w]
          rfl
        refine pure_ (i := 2) (N := some 29) (v := ?_) (a' := ?_) #[true, false, true, false, false, false, false, false, false, false] rfl rfl (by kernel_rfl) (fun _ _ _ h => h) (Or.inl ⟨by rfl, ?_⟩) ?_ ?_
        rotate_left
        · intro w'
          go_simp
          with_reducible rfl
        rotate_left
        · simp only [Act.put, List.setIfInBounds_toArray, List.set_cons_zero, List.set_cons_succ, i64_w, i32_w]
          rfl
        refine take_ (i := 1) (N := some 28) (v := ?_) (a' := ?_) #[true, true, true, false, false, false, false, false, false, false] rfl rfl (by kernel_rfl) (fun _ _ _ h => h) (Or.inl ⟨by rfl, ?_⟩) hHeld ?_ ?_
        rotate_left
        · rintro w' ⟨s0, s1, s2, s3, s4, s5, s6, s7, s8, s9, s10, s11, s12, s13, s14, s15, s16, s17, s18, s19, s20, s21, s22, s23, s24, s25⟩
          go_simp
          with_reducible rfl
        rotate_left
        · simp only [Act.put, List.setIfInBounds_toArray, List.set_cons_zero, List.set_cons_succ, i64_w, i32_w]
          rfl
        refine take_ (i := 3) (N := some 30) (v := ?_) (a' := ?_) #[true, true, true, true, false, false, false, false, false, false] rfl rfl (by kernel_rfl) (fun _ _ _ h => h) (Or.inl ⟨by rfl, ?_⟩) hHeld ?_ ?_
        rotate_left
        · rintro w' ⟨s0, s1, s2, s3, s4, s5, s6, s7, s8, s9, s10, s11, s12, s13, s14, s15, s16, s17, s18, s19, s20, s21, s22, s23, s24, s25⟩
          go_simp
          with_reducible rfl
        rotate_left
        · simp only [Act.put, List.setIfInBounds_toArray, List.set_cons_zero, List.set_cons_succ, i64_w, i32_w]
          rfl
        refine pure_ (i := 4) (N := some 31) (v := ?_) (a' := ?_) #[true, true, true, true, true, false, false, false, false, false] rfl rfl (by kernel_rfl) (fun _ _ _ h => h) (Or.inl ⟨by rfl, ?_⟩) ?_ ?_
        rotate_left
        · intro w'
          go_simp
          with_reducible rfl
        rotate_left
        · simp only [Act.put, List.setIfInBounds_toArray, List.set_cons_zero, List.set_cons_succ, i64_w, i32_w]
          rfl
        refine take_ (i := 5) (N := some 32) (v := ?_) (a' := ?_) #[true, true, true, true, true, true, false, false, false, false] rfl rfl (by kernel_rfl) (fun _ _ _ h => h) (Or.inl ⟨by rfl, ?_⟩) hHeld ?_ ?_
        rotate_left
        · rintro w' ⟨s0, s1, s2, s3, s4, s5, s6, s7, s8, s9, s10, s11, s12, s13, s14, s15, s16, s17, s18, s19, s20, s21, s22, s23, s24, s25⟩
          go_simp
          with_reducible rfl
        rotate_left
        · simp only [Act.put, List.setIfInBounds_toArray, List.set_cons_zero, List.set_cons_succ, i64_w, i32_w]
          rfl
        refine take_ (i := 6) (N := some 33) (v := ?_) (a' := ?_) #[true, true, true, true, true, true, true, false, false, false] rfl rfl (by kernel_rfl) (fun _ _ _ h => h) (Or.inl ⟨by rfl, ?_⟩) hHeld ?_ ?_
        rotate_left
        · rintro w' ⟨s0, s1, s2, s3, s4, s5, s6, s7, s8, s9, s10, s11, s12, s13, s14, s15, s16, s17, s18, s19, s20, s21, s22, s23, s24, s25⟩
          go_simp
          with_reducible rfl
        rotate_left
        · simp only [Act.put, List.setIfInBounds_toArray, List.set_cons_zero, List.set_cons_succ, i64_w, i32_w]
          rfl
        refine one_ (i := 7) (N := some 34) #[true, true, true, true, true, true, true, true, false, false] rfl rfl (by kernel_rfl) (by decide) (fun K hK => ?_)
        refine goes_ Try.func30 (by kernel_rfl) rfl #[.agg #[.int .i64 a.kind, .int .i64 a.src, .int .i64 a.dst, .int .i64 a.id, .int .i64 a.rev, .int .i64 a.epoch, .int .i64 a.slot, .bool a.flag, .slice A1 nA1 cA1, .slice A2 nA2 cA2, .slice A3 nA3 cA3, .slice A4 nA4 cA4], .agg #[.int .i64 b.kind, .int .i64 b.src, .int .i64 b.dst, .int .i64 b.id, .int .i64 b.rev, .int .i64 b.epoch, .int .i64 b.slot, .bool b.flag, .slice B1 nB1 cB1, .slice B2 nB2 cB2, .slice B3 nB3 cB3, .slice B4 nB4 cB4]] (by rfl) rfl rfl (by simp only [List.map_toArray, List.map_cons, List.map_nil]; rfl) ?_
        with_reducible refine (same_ok a.kind b.kind a.src b.src a.dst b.dst a.id b.id a.rev b.rev a.epoch b.epoch a.slot b.slot a.flag b.flag a.nodes b.nodes a.muts b.muts a.pre b.pre a.rows b.rows A1 A2 A3 A4 B1 B2 B3 B4 nA1 nA2 nA3 nA4 cA1 cA2 cA3 cA4 nB1 nB2 nB3 nB4 cB1 cB2 cB3 cB4 _ (MA.out.below H5.out.drew.below) (MB.out.below H5.out.drew.below)).mono ?_
        rintro e w4 ⟨bb, rfl, hbb, hbel⟩
        refine ⟨_, rfl, ?_⟩
        obtain rfl : bb = true := hbb.2 HAB.out
        have H6 := Aside0.mk (H5.out.drew.from_below hbel)
        have G1'' := Aside0.mk (G1'.out.drew.from_below hbel)
        have G2'' := Aside0.mk (G2.out.drew.from_below hbel)
        have p0 := H6.out.cellAt w.heap.size 0 (v := .int .i64 a.kind) rfl
        have p1 := H6.out.cellAt w.heap.size 1 (v := .int .i64 a.src) rfl
        have p2 := H6.out.cellAt w.heap.size 2 (v := .int .i64 a.dst) rfl
        have p3 := H6.out.cellAt w.heap.size 3 (v := .int .i64 a.id) rfl
        have p4 := H6.out.cellAt w.heap.size 4 (v := .int .i64 a.rev) rfl
        have p5 := H6.out.cellAt w.heap.size 5 (v := .int .i64 a.epoch) rfl
        have p6 := H6.out.cellAt w.heap.size 6 (v := .int .i64 a.slot) rfl
        have p7 := H6.out.cellAt w.heap.size 7 (v := .bool a.flag) rfl
        have p8 := H6.out.cellAt w.heap.size 8 (v := .slice A1 nA1 cA1) rfl
        have p9 := H6.out.cellAt w.heap.size 9 (v := .slice A2 nA2 cA2) rfl
        have p10 := H6.out.cellAt w.heap.size 10 (v := .slice A3 nA3 cA3) rfl
        have p11 := H6.out.cellAt w.heap.size 11 (v := .slice A4 nA4 cA4) rfl
        have p12 := H6.out.cellAt (w.heap.size + 1) 0 (v := .int .i64 b.kind) rfl
        have p13 := H6.out.cellAt (w.heap.size + 1) 1 (v := .int .i64 b.src) rfl
        have p14 := H6.out.cellAt (w.heap.size + 1) 2 (v := .int .i64 b.dst) rfl
        have p15 := H6.out.cellAt (w.heap.size + 1) 3 (v := .int .i64 b.id) rfl
        have p16 := H6.out.cellAt (w.heap.size + 1) 4 (v := .int .i64 b.rev) rfl
        have p17 := H6.out.cellAt (w.heap.size + 1) 5 (v := .int .i64 b.epoch) rfl
        have p18 := H6.out.cellAt (w.heap.size + 1) 6 (v := .int .i64 b.slot) rfl
        have p19 := H6.out.cellAt (w.heap.size + 1) 7 (v := .bool b.flag) rfl
        have p20 := H6.out.cellAt (w.heap.size + 1) 8 (v := .slice B1 nB1 cB1) rfl
        have p21 := H6.out.cellAt (w.heap.size + 1) 9 (v := .slice B2 nB2 cB2) rfl
        have p22 := H6.out.cellAt (w.heap.size + 1) 10 (v := .slice B3 nB3 cB3) rfl
        have p23 := H6.out.cellAt (w.heap.size + 1) 11 (v := .slice B4 nB4 cB4) rfl
        have cA' := G1''.out.row_string Try.underlying35 Try.underlying5 Try.underlying9
        rw [← hs] at cA'
        have cB' := G2''.out.row_string Try.underlying35 Try.underlying5 Try.underlying9
        rw [← ht] at cB'
        clear hbb hbel
        refine hK.out _ _ ⟨p0, p1, p2, p3, p4, p5, p6, p7, p8, p9, p10, p11, p12, p13, p14, p15, p16, p17, p18, p19, p20, p21, p22, p23, cA', cB'⟩ (fun hHeld => ?_)
        clear hK K
        refine norm_ (a' := ?_) ?_ ?_
        rotate_left
        · show Act.put _ (some 34) _ = _
          simp only [Act.put, List.setIfInBounds_toArray, List.set_cons_zero, List.set_cons_succ, i64_w, i32_w]
          rfl
        refine pure_ (i := 8) (N := some 35) (v := ?_) (a' := ?_) #[true, true, true, true, true, true, true, true, true, false] rfl rfl (by kernel_rfl) (fun _ _ _ h => h) (Or.inl ⟨by rfl, ?_⟩) ?_ ?_
        rotate_left
        · intro w'
          go_simp
          with_reducible rfl
        rotate_left
        · simp only [Act.put, List.setIfInBounds_toArray, List.set_cons_zero, List.set_cons_succ, i64_w, i32_w]
          rfl
        refine pure_ (i := 9) (N := some 4) (v := ?_) (a' := ?_) #[true, true, true, true, true, true, true, true, true, true] rfl rfl (by kernel_rfl) (fun _ _ _ h => h) (Or.inl ⟨by rfl, ?_⟩) ?_ ?_
        rotate_left
        · intro w'
          go_simp
          with_reducible rfl
        rotate_left
        · simp only [Act.put, List.setIfInBounds_toArray, List.set_cons_zero, List.set_cons_succ, i64_w, i32_w]
          rfl
        refine done_ (by kernel_rfl) ?_
        go_wp2_with fail
        go_ret
        refine ⟨?_, H6.out.below⟩
        rfl
      · obtain ⟨s, hs⟩ : ∃ s, s = strOfNums (encMsg a) := ⟨_, rfl⟩
        obtain ⟨t, ht⟩ : ∃ t, t = strOfNums (encMsg b) := ⟨_, rfl⟩
        have hst : ¬ s.toList = t.toList := fun h => hab (by
          have h1 : s = t := tx_toList.mp h
          rw [hs, ht] at h1
          have h2 := tx_inj (encMsg_bytes a) (encMsg_bytes b) h1
          have h3 := dec_enc a OA.out FA.out.1 FA.out.2
          rw [h2, dec_enc b OB.out FB.out.1 FB.out.2] at h3
          injection h3 with h3
          exact h3.symm)
        have HAB := Aside0.mk hab
        clear hab
        have k0 := H5.out.cellAt w.heap.size 0 (v := .int .i64 a.kind) rfl
        have k1 := H5.out.cellAt w.heap.size 1 (v := .int .i64 a.src) rfl
        have k2 := H5.out.cellAt w.heap.size 2 (v := .int .i64 a.dst) rfl
        have k3 := H5.out.cellAt w.heap.size 3 (v := .int .i64 a.id) rfl
        have k4 := H5.out.cellAt w.heap.size 4 (v := .int .i64 a.rev) rfl
        have k5 := H5.out.cellAt w.heap.size 5 (v := .int .i64 a.epoch) rfl
        have k6 := H5.out.cellAt w.heap.size 6 (v := .int .i64 a.slot) rfl
        have k7 := H5.out.cellAt w.heap.size 7 (v := .bool a.flag) rfl
        have k8 := H5.out.cellAt w.heap.size 8 (v := .slice A1 nA1 cA1) rfl
        have k9 := H5.out.cellAt w.heap.size 9 (v := .slice A2 nA2 cA2) rfl
        have k10 := H5.out.cellAt w.heap.size 10 (v := .slice A3 nA3 cA3) rfl
        have k11 := H5.out.cellAt w.heap.size 11 (v := .slice A4 nA4 cA4) rfl
        have k12 := H5.out.cellAt (w.heap.size + 1) 0 (v := .int .i64 b.kind) rfl
        have k13 := H5.out.cellAt (w.heap.size + 1) 1 (v := .int .i64 b.src) rfl
        have k14 := H5.out.cellAt (w.heap.size + 1) 2 (v := .int .i64 b.dst) rfl
        have k15 := H5.out.cellAt (w.heap.size + 1) 3 (v := .int .i64 b.id) rfl
        have k16 := H5.out.cellAt (w.heap.size + 1) 4 (v := .int .i64 b.rev) rfl
        have k17 := H5.out.cellAt (w.heap.size + 1) 5 (v := .int .i64 b.epoch) rfl
        have k18 := H5.out.cellAt (w.heap.size + 1) 6 (v := .int .i64 b.slot) rfl
        have k19 := H5.out.cellAt (w.heap.size + 1) 7 (v := .bool b.flag) rfl
        have k20 := H5.out.cellAt (w.heap.size + 1) 8 (v := .slice B1 nB1 cB1) rfl
        have k21 := H5.out.cellAt (w.heap.size + 1) 9 (v := .slice B2 nB2 cB2) rfl
        have k22 := H5.out.cellAt (w.heap.size + 1) 10 (v := .slice B3 nB3 cB3) rfl
        have k23 := H5.out.cellAt (w.heap.size + 1) 11 (v := .slice B4 nB4 cB4) rfl
        have cA := G1'.out.drew.row_string Try.underlying35 Try.underlying5 Try.underlying9
        rw [← hs] at cA
        have cB := G2.out.drew.row_string Try.underlying35 Try.underlying5 Try.underlying9
        rw [← ht] at cB
        go_upto_region 7 with fail
        refine start_ (n := 10) (S := fun w' => w'.cell? ⟨w.heap.size, 0, none⟩ = some (.int .i64 a.kind) ∧ w'.cell? ⟨w.heap.size, 1, none⟩ = some (.int .i64 a.src) ∧ w'.cell? ⟨w.heap.size, 2, none⟩ = some (.int .i64 a.dst) ∧ w'.cell? ⟨w.heap.size, 3, none⟩ = some (.int .i64 a.id) ∧ w'.cell? ⟨w.heap.size, 4, none⟩ = some (.int .i64 a.rev) ∧ w'.cell? ⟨w.heap.size, 5, none⟩ = some (.int .i64 a.epoch) ∧ w'.cell? ⟨w.heap.size, 6, none⟩ = some (.int .i64 a.slot) ∧ w'.cell? ⟨w.heap.size, 7, none⟩ = some (.bool a.flag) ∧ w'.cell? ⟨w.heap.size, 8, none⟩ = some (.slice A1 nA1 cA1) ∧ w'.cell? ⟨w.heap.size, 9, none⟩ = some (.slice A2 nA2 cA2) ∧ w'.cell? ⟨w.heap.size, 10, none⟩ = some (.slice A3 nA3 cA3) ∧ w'.cell? ⟨w.heap.size, 11, none⟩ = some (.slice A4 nA4 cA4) ∧ w'.cell? ⟨w.heap.size + 1, 0, none⟩ = some (.int .i64 b.kind) ∧ w'.cell? ⟨w.heap.size + 1, 1, none⟩ = some (.int .i64 b.src) ∧ w'.cell? ⟨w.heap.size + 1, 2, none⟩ = some (.int .i64 b.dst) ∧ w'.cell? ⟨w.heap.size + 1, 3, none⟩ = some (.int .i64 b.id) ∧ w'.cell? ⟨w.heap.size + 1, 4, none⟩ = some (.int .i64 b.rev) ∧ w'.cell? ⟨w.heap.size + 1, 5, none⟩ = some (.int .i64 b.epoch) ∧ w'.cell? ⟨w.heap.size + 1, 6, none⟩ = some (.int .i64 b.slot) ∧ w'.cell? ⟨w.heap.size + 1, 7, none⟩ = some (.bool b.flag) ∧ w'.cell? ⟨w.heap.size + 1, 8, none⟩ = some (.slice B1 nB1 cB1) ∧ w'.cell? ⟨w.heap.size + 1, 9, none⟩ = some (.slice B2 nB2 cB2) ∧ w'.cell? ⟨w.heap.size + 1, 10, none⟩ = some (.slice B3 nB3 cB3) ∧ w'.cell? ⟨w.heap.size + 1, 11, none⟩ = some (.slice B4 nB4 cB4) ∧ (convert 35 9 (.slice A n c)).run Try.prog w' = .ok (.string s) w' ∧ (convert 35 9 (.slice B n2 c2)).run Try.prog w' = .ok (.string t) w') (ds := []) #[false, false, false, false, false, false, false, false, false, false] (by kernel_rfl) rfl rfl ⟨k0, k1, k2, k3, k4, k5, k6, k7, k8, k9, k10, k11, k12, k13, k14, k15, k16, k17, k18, k19, k20, k21, k22, k23, cA, cB⟩ (fun hHeld => ?_)
        refine pure_ (i := 0) (N := some 27) (v := ?_) (a' := ?_) #[true, false, false, false, false, false, false, false, false, false] rfl rfl (by kernel_rfl) (fun _ _ _ h => h) (Or.inl ⟨by rfl, ?_⟩) ?_ ?_
        rotate_left
        · intro w'
          go_simp
          with_reducible rfl
        rotate_left
        · simp only [Act.put, List.setIfInBounds_toArray, List.set_cons_zero, List.set_cons_succ, i64_w, i32_w]
          rfl
        refine pure_ (i := 2) (N := some 29) (v := ?_) (a' := ?_) #[true, false, true, false, false, false, false, false, false, false] rfl rfl (by kernel_rfl) (fun _ _ _ h => h) (Or.inl ⟨by rfl, ?_⟩) ?_ ?_
        rotate_left
        · intro w'
          go_simp
          with_reducible rfl
        rotate_left
        · simp only [Act.put, List.setIfInBounds_toArray, List.set_cons_zero, List.set_cons_succ, i64_w, i32_w]
          rfl
        refine take_ (i := 1) (N := some 28) (v := ?_) (a' := ?_) #[true, true, true, false, false, false, false, false, false, false] rfl rfl (by kernel_rfl) (fun _ _ _ h => h) (Or.inl ⟨by rfl, ?_⟩) hHeld ?_ ?_
        rotate_left
        · rintro w' ⟨s0, s1, s2, s3, s4, s5, s6, s7, s8, s9, s10, s11, s12, s13, s14, s15, s16, s17, s18, s19, s20, s21, s22, s23, s24, s25⟩
          go_simp
          with_reducible rfl
        rotate_left
        · simp only [Act.put, List.setIfInBounds_toArray, List.set_cons_zero, List.set_cons_succ, i64_w, i32_w]
          rfl
        refine take_ (i := 3) (N := some 30) (v := ?_) (a' := ?_) #[true, true, true, true, false, false, false, false, false, false] rfl rfl (by kernel_rfl) (fun _ _ _ h => h) (Or.inl ⟨by rfl, ?_⟩) hHeld ?_ ?_
        rotate_left
        · rintro w' ⟨s0, s1, s2, s3, s4, s5, s6, s7, s8, s9, s10, s11, s12, s13, s14, s15, s16, s17, s18, s19, s20, s21, s22, s23, s24, s25⟩
          go_simp
          with_reducible rfl
        rotate_left
        · simp only [Act.put, List.setIfInBounds_toArray, List.set_cons_zero, List.set_cons_succ, i64_w, i32_w]
          rfl
        refine pure_ (i := 4) (N := some 31) (v := ?_) (a' := ?_) #[true, true, true, true, true, false, false, false, false, false] rfl rfl (by kernel_rfl) (fun _ _ _ h => h) (Or.inl ⟨by rfl, ?_⟩) ?_ ?_
        rotate_left
        · intro w'
          go_simp
          with_reducible rfl
        rotate_left
        · simp only [Act.put, List.setIfInBounds_toArray, List.set_cons_zero, List.set_cons_succ, i64_w, i32_w]
          rfl
        refine take_ (i := 5) (N := some 32) (v := ?_) (a' := ?_) #[true, true, true, true, true, true, false, false, false, false] rfl rfl (by kernel_rfl) (fun _ _ _ h => h) (Or.inl ⟨by rfl, ?_⟩) hHeld ?_ ?_
        rotate_left
        · rintro w' ⟨s0, s1, s2, s3, s4, s5, s6, s7, s8, s9, s10, s11, s12, s13, s14, s15, s16, s17, s18, s19, s20, s21, s22, s23, s24, s25⟩
          go_simp
          with_reducible rfl
        rotate_left
        · simp only [Act.put, List.setIfInBounds_toArray, List.set_cons_zero, List.set_cons_succ, i64_w, i32_w]
          rfl
        refine take_ (i := 6) (N := some 33) (v := ?_) (a' := ?_) #[true, true, true, true, true, true, true, false, false, false] rfl rfl (by kernel_rfl) (fun _ _ _ h => h) (Or.inl ⟨by rfl, ?_⟩) hHeld ?_ ?_
        rotate_left
        · rintro w' ⟨s0, s1, s2, s3, s4, s5, s6, s7, s8, s9, s10, s11, s12, s13, s14, s15, s16, s17, s18, s19, s20, s21, s22, s23, s24, s25⟩
          go_simp
          with_reducible rfl
        rotate_left
        · simp only [Act.put, List.setIfInBounds_toArray, List.set_cons_zero, List.set_cons_succ, i64_w, i32_w]
          rfl
        refine one_ (i := 7) (N := some 34) #[true, true, true, true, true, true, true, true, false, false] rfl rfl (by kernel_rfl) (by decide) (fun K hK => ?_)
        refine goes_ Try.func30 (by kernel_rfl) rfl #[.agg #[.int .i64 a.kind, .int .i64 a.src, .int .i64 a.dst, .int .i64 a.id, .int .i64 a.rev, .int .i64 a.epoch, .int .i64 a.slot, .bool a.flag, .slice A1 nA1 cA1, .slice A2 nA2 cA2, .slice A3 nA3 cA3, .slice A4 nA4 cA4], .agg #[.int .i64 b.kind, .int .i64 b.src, .int .i64 b.dst, .int .i64 b.id, .int .i64 b.rev, .int .i64 b.epoch, .int .i64 b.slot, .bool b.flag, .slice B1 nB1 cB1, .slice B2 nB2 cB2, .slice B3 nB3 cB3, .slice B4 nB4 cB4]] (by rfl) rfl rfl (by simp only [List.map_toArray, List.map_cons, List.map_nil]; rfl) ?_
        with_reducible refine (same_ok a.kind b.kind a.src b.src a.dst b.dst a.id b.id a.rev b.rev a.epoch b.epoch a.slot b.slot a.flag b.flag a.nodes b.nodes a.muts b.muts a.pre b.pre a.rows b.rows A1 A2 A3 A4 B1 B2 B3 B4 nA1 nA2 nA3 nA4 cA1 cA2 cA3 cA4 nB1 nB2 nB3 nB4 cB1 cB2 cB3 cB4 _ (MA.out.below H5.out.drew.below) (MB.out.below H5.out.drew.below)).mono ?_
        rintro e w4 ⟨bb, rfl, hbb, hbel⟩
        refine ⟨_, rfl, ?_⟩
        obtain rfl : bb = false := by cases bb with | false => rfl | true => exact absurd (hbb.1 rfl) HAB.out
        have H6 := Aside0.mk (H5.out.drew.from_below hbel)
        have G1'' := Aside0.mk (G1'.out.drew.from_below hbel)
        have G2'' := Aside0.mk (G2.out.drew.from_below hbel)
        have p0 := H6.out.cellAt w.heap.size 0 (v := .int .i64 a.kind) rfl
        have p1 := H6.out.cellAt w.heap.size 1 (v := .int .i64 a.src) rfl
        have p2 := H6.out.cellAt w.heap.size 2 (v := .int .i64 a.dst) rfl
        have p3 := H6.out.cellAt w.heap.size 3 (v := .int .i64 a.id) rfl
        have p4 := H6.out.cellAt w.heap.size 4 (v := .int .i64 a.rev) rfl
        have p5 := H6.out.cellAt w.heap.size 5 (v := .int .i64 a.epoch) rfl
        have p6 := H6.out.cellAt w.heap.size 6 (v := .int .i64 a.slot) rfl
        have p7 := H6.out.cellAt w.heap.size 7 (v := .bool a.flag) rfl
        have p8 := H6.out.cellAt w.heap.size 8 (v := .slice A1 nA1 cA1) rfl
        have p9 := H6.out.cellAt w.heap.size 9 (v := .slice A2 nA2 cA2) rfl
        have p10 := H6.out.cellAt w.heap.size 10 (v := .slice A3 nA3 cA3) rfl
        have p11 := H6.out.cellAt w.heap.size 11 (v := .slice A4 nA4 cA4) rfl
        have p12 := H6.out.cellAt (w.heap.size + 1) 0 (v := .int .i64 b.kind) rfl
        have p13 := H6.out.cellAt (w.heap.size + 1) 1 (v := .int .i64 b.src) rfl
        have p14 := H6.out.cellAt (w.heap.size + 1) 2 (v := .int .i64 b.dst) rfl
        have p15 := H6.out.cellAt (w.heap.size + 1) 3 (v := .int .i64 b.id) rfl
        have p16 := H6.out.cellAt (w.heap.size + 1) 4 (v := .int .i64 b.rev) rfl
        have p17 := H6.out.cellAt (w.heap.size + 1) 5 (v := .int .i64 b.epoch) rfl
        have p18 := H6.out.cellAt (w.heap.size + 1) 6 (v := .int .i64 b.slot) rfl
        have p19 := H6.out.cellAt (w.heap.size + 1) 7 (v := .bool b.flag) rfl
        have p20 := H6.out.cellAt (w.heap.size + 1) 8 (v := .slice B1 nB1 cB1) rfl
        have p21 := H6.out.cellAt (w.heap.size + 1) 9 (v := .slice B2 nB2 cB2) rfl
        have p22 := H6.out.cellAt (w.heap.size + 1) 10 (v := .slice B3 nB3 cB3) rfl
        have p23 := H6.out.cellAt (w.heap.size + 1) 11 (v := .slice B4 nB4 cB4) rfl
        have cA' := G1''.out.row_string Try.underlying35 Try.underlying5 Try.underlying9
        rw [← hs] at cA'
        have cB' := G2''.out.row_string Try.underlying35 Try.underlying5 Try.underlying9
        rw [← ht] at cB'
        clear hbb hbel
        refine hK.out _ _ ⟨p0, p1, p2, p3, p4, p5, p6, p7, p8, p9, p10, p11, p12, p13, p14, p15, p16, p17, p18, p19, p20, p21, p22, p23, cA', cB'⟩ (fun hHeld => ?_)
        clear hK K
        refine norm_ (a' := ?_) ?_ ?_
        rotate_left
        · show Act.put _ (some 34) _ = _
          simp only [Act.put, List.setIfInBounds_toArray, List.set_cons_zero, List.set_cons_succ, i64_w, i32_w]
          rfl
        refine pure_ (i := 8) (N := some 35) (v := ?_) (a' := ?_) #[true, true, true, true, true, true, true, true, true, false] rfl rfl (by kernel_rfl) (fun _ _ _ h => h) (Or.inl ⟨by rfl, ?_⟩) ?_ ?_
        rotate_left
        · intro w'
          go_simp
          with_reducible rfl
        rotate_left
        · simp only [Act.put, List.setIfInBounds_toArray, List.set_cons_zero, List.set_cons_succ, i64_w, i32_w]
          rfl
        refine pure_ (i := 9) (N := some 4) (v := ?_) (a' := ?_) #[true, true, true, true, true, true, true, true, true, true] rfl rfl (by kernel_rfl) (fun _ _ _ h => h) (Or.inl ⟨by rfl, ?_⟩) ?_ ?_
        rotate_left
        · intro w'
          go_simp
          with_reducible rfl
        rotate_left
        · simp only [Act.put, List.setIfInBounds_toArray, List.set_cons_zero, List.set_cons_succ, i64_w, i32_w]
          rfl
        refine done_ (by kernel_rfl) ?_
        go_wp2_with fail
        go_ret
        refine ⟨?_, H6.out.below⟩
        (simp [hst]; rw [← hs, ← ht]; exact hst)
    · obtain ⟨u1, u2⟩ := encGood_false gb
      rw [u2]
      clear ga gb t1 t2 u1 u2
      go_wp2_with fail
      go_ret
      exact ⟨rfl, BE.out⟩
  · obtain ⟨t1, t2⟩ := encGood_false ga
    rw [t2]
    clear ga t1 t2
    go_wp2_with fail
    go_ret
    exact ⟨rfl, BE.out⟩
theorem codeApart_walk (a : Msg) (s1 s2 s3 s4 : Hdr) (b : Msg) (r1 r2 r3 r4 : Hdr) (w : World) (hA : MsgC w a s1 s2 s3 s4) (okA : MsgOk a) (_ : MsgLe a s1 s2 s3 s4) (hB : MsgC w b r1 r2 r3 r4) (okB : MsgOk b) (_ : MsgLe b r1 r2 r3 r4) :
    Calls Try.prog 14 #[msgV a s1 s2 s3 s4, msgV b r1 r2 r3 r4] w fun e w' => e = .returned (.bool true) ∧ Below w.heap.size w w' :=
  codeApart_ok a b s1 s2 s3 s4 r1 r2 r3 r4 w hA okA hB okB
end Go.Proofs.Ytloiclalcepbeaa
