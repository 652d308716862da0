/- The document's oracle: Replay. Printed by wip/gen/reforcb.py. -/
import Derived.Test.YtckdkbjobipniaaRefOrc
set_option linter.unusedVariables false
set_option linter.unusedSimpArgs false
namespace Go.Proofs.Ytckdkbjobipniaa
open Go.RowKit Go.Proofs.YtckdkbjobipniaaW.PrintWords Go.Proofs.YtckdkbjobipniaaW.PrintLast
theorem Try.infoI64 : (Try.prog.info? 2).map (fun i => (i.zero, i.size, i.bytes)) = some (some (.int .i64 0), 1, 8) := by kernel_rfl
theorem iss_cells (l : List Iss) : ∀ u ∈ issCells l, u.oneCell' = true := by
  intro u hu
  obtain ⟨x, _, hx⟩ := List.mem_flatMap.1 hu
  simp only [List.mem_cons, List.not_mem_nil, or_false] at hx
  rcases hx with rfl | rfl | rfl | rfl | rfl | rfl | rfl | rfl | rfl | rfl | rfl | rfl <;> rfl
theorem done_cells (l : List Int) : ∀ u ∈ l.flatMap intC, u.oneCell' = true := by
  intro u hu
  obtain ⟨x, _, hx⟩ := List.mem_flatMap.1 hu
  obtain rfl : u = .int .i64 x := by simpa [intC] using hx
  rfl
section
variable {w0 w : World} {F : HP} {n c : Nat} {A : Option Addr}
theorem ref_iss {l : List Iss} (h : Hw w0 w (crow 12 27 A n c (issCells l) * F)) (hn : n = l.length) (hm : n ≤ 1000000) : MsgsC w A n (l.map issMH) := iss_msgs h hn hm
theorem ref_done {l : List Int} (h : Hw w0 w (crow 1 2 A n c (l.flatMap intC) * F)) (hn : n = l.length) (hm : n ≤ 1000000) : (Kd.int .i64).C w A n l := crow_C (d := Kd.int .i64) intC KInt_mk (by decide) h hn.symm (by omega)
theorem rp1 {C7 X C D : HP} (h : Hw w0 w (C7 * (X * (C * (D * F))))) : Hw w0 w (C7 * (D * F)) := (h.as (Q := C7 * (D * F) * (X * C)) (by ac_rfl)).left
theorem rp2 {C7 X C D : HP} (h : Hw w0 w (C7 * (X * (C * (D * F))))) : Hw w0 w (C * (C7 * F)) := (h.as (Q := C * (C7 * F) * (X * D)) (by ac_rfl)).left
set_option maxHeartbeats 12800000 in
set_option maxRecDepth 100000 in
theorem r14replay_ok (t : ByteArray) (dur room : Int) (A : Option Addr) (n c : Nat) (B : Option Addr) (m d : Nat) (s : Orc) (M : Msg) (A1 A2 A3 A4 : Option Addr) (n1 n2 n3 n4 c1 c2 c3 c4 : Nat) (h : Hw w0 w (crow 12 27 A n c (issCells s.iss) * (crow 1 2 B m d (s.done.flatMap intC) * F))) (hok : OrcOk s) (hn : n = s.iss.length) (hm : m = s.done.length) (NB : n ≤ 1000000) (MB : m ≤ 1000000) :
    Calls Try.prog 88 #[.agg #[.string t, .int .i64 dur, .int .i64 room, .slice A n c, .slice B m d], .agg #[.int .i64 M.kind, .int .i64 M.src, .int .i64 M.dst, .int .i64 M.id, .int .i64 M.rev, .int .i64 M.epoch, .int .i64 M.slot, .bool M.flag, .slice A1 n1 c1, .slice A2 n2 c2, .slice A3 n3 c3, .slice A4 n4 c4]] w fun e w' => ∃ A' n' c' B' m' d', e = .returned (.agg #[.string t, .int .i64 dur, .int .i64 room, .slice A' n' c', .slice B' m' d']) ∧ n' = (oreplay s M).iss.length ∧ m' = (oreplay s M).done.length ∧ Hw w0 w' (crow 12 27 A' n' c' (issCells (oreplay s M).iss) * (crow 1 2 B' m' d' ((oreplay s M).done.flatMap intC) * F)) := by
  have SO := Aside0.mk hok
  have NN := Aside0.mk hn
  have MM := Aside0.mk hm
  have H1 := Aside0.mk (((h.alloc (.cells #[.string t, .int .i64 dur, .int .i64 room, .slice A n c, .slice B m d] 77)).alloc (.cells #[.int .i64 M.kind, .int .i64 M.src, .int .i64 M.dst, .int .i64 M.id, .int .i64 M.rev, .int .i64 M.epoch, .int .i64 M.slot, .bool M.flag, .slice A1 n1 c1, .slice A2 n2 c2, .slice A3 n3 c3, .slice A4 n4 c4] 27)).alloc (.cells #[.string ⟨#[]⟩, .int .i64 0, .int .i64 0, .slice none 0 0, .slice none 0 0] 77))
  simp only [World.size_alloc] at H1
  obtain ⟨last, hlast⟩ : ∃ x, olast ⟨s.iss, s.done⟩ = x := ⟨_, rfl⟩
  obtain ⟨rv, hrv⟩ : ∃ x, orev ⟨s.iss, s.done⟩ M.id = x := ⟨_, rfl⟩
  have EL := Aside0.mk hlast
  have ER := Aside0.mk hrv
  have OR := Aside0.mk (show oreplay s M = if M.kind = 1 ∧ last < M.rev ∧ rv = 0 then ⟨s.iss ++ [⟨M.src, M.id, M.rev⟩], s.done⟩ else if M.kind = 2 ∧ rv ≠ 0 ∧ M.id ∉ s.done then ⟨s.iss, s.done ++ [M.id]⟩ else s by
    rw [← hlast, ← hrv]
    rfl)
  clear h hok hn hm hlast hrv
  go_enter Try.func88, Try.ntmps88
  go_upto_region 1 with fail
  obtain ⟨b1, hb1⟩ : ∃ b, b = w.heap.size := ⟨_, rfl⟩
  obtain ⟨b2, hb2⟩ : ∃ b, b = w.heap.size + 1 := ⟨_, rfl⟩
  obtain ⟨b3, hb3⟩ : ∃ b, b = w.heap.size + 1 + 1 := ⟨_, rfl⟩
  obtain ⟨W, hW⟩ : ∃ W, W = (((w.alloc (.cells #[.string t, .int .i64 dur, .int .i64 room, .slice A n c, .slice B m d] 77)).alloc (.cells #[.int .i64 M.kind, .int .i64 M.src, .int .i64 M.dst, .int .i64 M.id, .int .i64 M.rev, .int .i64 M.epoch, .int .i64 M.slot, .bool M.flag, .slice A1 n1 c1, .slice A2 n2 c2, .slice A3 n3 c3, .slice A4 n4 c4] 27)).alloc (.cells #[.string ⟨#[]⟩, .int .i64 0, .int .i64 0, .slice none 0 0, .slice none 0 0] 77)) := ⟨_, rfl⟩
  have n12 : ¬ b1 = b2 := by omega
  have n21 : ¬ b2 = b1 := by omega
  have n13 : ¬ b1 = b3 := by omega
  have n31 : ¬ b3 = b1 := by omega
  have n23 : ¬ b2 = b3 := by omega
  have n32 : ¬ b3 = b2 := by omega
  rw [← hW, ← hb3, ← hb2, ← hb1] at H1
  rw [← hW, ← hb3, ← hb2, ← hb1]
  clear hW hb1 hb2 hb3
  have HD := Aside0.mk H1.out.drew
  have p10 := HD.out.cellAt b1 0 (v := .string t) rfl
  have p11 := HD.out.cellAt b1 1 (v := .int .i64 dur) rfl
  have p12 := HD.out.cellAt b1 2 (v := .int .i64 room) rfl
  have p13 := HD.out.cellAt b1 3 (v := .slice A n c) rfl
  have p14 := HD.out.cellAt b1 4 (v := .slice B m d) rfl
  have p20 := HD.out.cellAt b2 0 (v := .int .i64 M.kind) rfl
  have p23 := HD.out.cellAt b2 3 (v := .int .i64 M.id) rfl
  have p24 := HD.out.cellAt b2 4 (v := .int .i64 M.rev) rfl
  have LAHD := Aside0.mk (ref_iss (HD.out.at (crow 12 27 A n c (issCells s.iss))) NN.out NB)
  have LBHD := Aside0.mk (ref_done (HD.out.at (crow 1 2 B m d (s.done.flatMap intC))) MM.out MB)
  by_cases k1 : M.kind = 1
  · have e1 : (M.kind == 1) = true := by simpa using k1
    have e2 : (M.kind == 2) = false := by rw [k1]; rfl
    have K1 := Aside0.mk k1
    clear k1
    by_cases k2 : last < M.rev
    · have e3 : decide (last < M.rev) = true := decide_eq_true k2
      have K2 := Aside0.mk k2
      clear k2
      by_cases k3 : rv = 0
      · have e4 : (rv == 0) = true := by simpa using k3
        have RE := Aside0.mk (show oreplay s M = ⟨s.iss ++ [⟨M.src, M.id, M.rev⟩], s.done⟩ by rw [OR.out, if_pos ⟨K1.out, K2.out, k3⟩])
        clear k3
        refine start_ (n := 17) (S := fun w' => w'.cell? ⟨b1, 0, none⟩ = some (.string t) ∧ w'.cell? ⟨b1, 1, none⟩ = some (.int .i64 dur) ∧ w'.cell? ⟨b1, 2, none⟩ = some (.int .i64 room) ∧ w'.cell? ⟨b1, 3, none⟩ = some (.slice A n c) ∧ w'.cell? ⟨b1, 4, none⟩ = some (.slice B m d) ∧ w'.cell? ⟨b2, 0, none⟩ = some (.int .i64 M.kind) ∧ w'.cell? ⟨b2, 3, none⟩ = some (.int .i64 M.id) ∧ w'.cell? ⟨b2, 4, none⟩ = some (.int .i64 M.rev)) (ds := []) #[false, false, false, false, false, false, false, false, false, false, false, false, false, false, false, false, false] (by kernel_rfl) rfl rfl ⟨p10, p11, p12, p13, p14, p20, p23, p24⟩ (fun hHeld => ?_)
        refine pure_ (i := 0) (N := some 7) (v := ?_) (a' := ?_) #[true, false, false, false, false, false, false, false, false, false, false, false, false, false, false, false, false] rfl rfl (by kernel_rfl) (fun _ _ _ h => h) (Or.inl ⟨by rfl, ?_⟩) ?_ ?_
        rotate_left
        · intro w'
          go_simp
          with_reducible rfl
        rotate_left
        · simp only [Act.put, List.setIfInBounds_toArray, List.set_cons_zero, List.set_cons_succ, i64_w, i32_w]
          rfl
        refine take_ (i := 1) (N := some 8) (v := ?_) (a' := ?_) #[true, true, false, false, false, false, false, false, false, false, false, false, false, false, false, false, false] rfl rfl (by kernel_rfl) (fun _ _ _ h => h) (Or.inl ⟨by rfl, ?_⟩) hHeld ?_ ?_
        rotate_left
        · rintro w' ⟨s0, s1, s2, s3, s4, s5, s6, s7⟩
          go_simp
          with_reducible rfl
        rotate_left
        · simp only [Act.put, List.setIfInBounds_toArray, List.set_cons_zero, List.set_cons_succ, i64_w, i32_w]
          rfl
        refine pure_ (i := 2) (N := some 9) (v := ?_) (a' := ?_) #[true, true, true, false, false, false, false, false, false, false, false, false, false, false, false, false, false] rfl rfl (by kernel_rfl) (fun _ _ _ h => h) (Or.inl ⟨by rfl, ?_⟩) ?_ ?_
        rotate_left
        · intro w'
          go_simp
          with_reducible rfl
        rotate_left
        · simp only [Act.put, List.setIfInBounds_toArray, List.set_cons_zero, List.set_cons_succ, i64_w, i32_w]
          rfl
        refine pure_ (i := 3) (N := some 10) (v := ?_) (a' := ?_) #[true, true, true, true, false, false, false, false, false, false, false, false, false, false, false, false, false] rfl rfl (by kernel_rfl) (fun _ _ _ h => h) (Or.inl ⟨by rfl, ?_⟩) ?_ ?_
        rotate_left
        · intro w'
          go_simp
          with_reducible rfl
        rotate_left
        · simp only [Act.put, List.setIfInBounds_toArray, List.set_cons_zero, List.set_cons_succ, i64_w, i32_w]
          rfl
        refine pure_ (i := 4) (N := some 11) (v := ?_) (a' := ?_) #[true, true, true, true, true, false, false, false, false, false, false, false, false, false, false, false, false] rfl rfl (by kernel_rfl) (fun _ _ _ h => h) (Or.inl ⟨by rfl, ?_⟩) ?_ ?_
        rotate_left
        · intro w'
          go_simp
          with_reducible rfl
        rotate_left
        · simp only [Act.put, List.setIfInBounds_toArray, List.set_cons_zero, List.set_cons_succ, i64_w, i32_w]
          rfl
        refine take_ (i := 5) (N := some 12) (v := ?_) (a' := ?_) #[true, true, true, true, true, true, false, false, false, false, false, false, false, false, false, false, false] rfl rfl (by kernel_rfl) (fun _ _ _ h => h) (Or.inl ⟨by rfl, ?_⟩) hHeld ?_ ?_
        rotate_left
        · rintro w' ⟨s0, s1, s2, s3, s4, s5, s6, s7⟩
          go_simp
          with_reducible rfl
        rotate_left
        · simp only [Act.put, List.setIfInBounds_toArray, List.set_cons_zero, List.set_cons_succ, i64_w, i32_w]
          rfl
        refine take_ (i := 6) (N := some 13) (v := ?_) (a' := ?_) #[true, true, true, true, true, true, true, false, false, false, false, false, false, false, false, false, false] rfl rfl (by kernel_rfl) (fun _ _ _ h => h) (Or.inl ⟨by rfl, ?_⟩) hHeld ?_ ?_
        rotate_left
        · rintro w' ⟨s0, s1, s2, s3, s4, s5, s6, s7⟩
          go_simp
          with_reducible rfl
        rotate_left
        · simp only [Act.put, List.setIfInBounds_toArray, List.set_cons_zero, List.set_cons_succ, i64_w, i32_w]
          rfl
        refine one_ (i := 7) (N := some 14) #[true, true, true, true, true, true, true, true, false, false, false, false, false, false, false, false, false] rfl rfl (by kernel_rfl) (by decide) (fun K hK => ?_)
        refine goes_ Try.func44 (by kernel_rfl) rfl #[.agg #[.string t, .int .i64 dur, .int .i64 room, .slice A n c, .slice B m d]] (by rfl) rfl rfl (by simp only [List.map_toArray, List.map_cons, List.map_nil]; rfl) ?_
        with_reducible refine (r14last_ok t dur room A n c B m d s.iss s.done _ LAHD.out NB).mono ?_
        rintro e w4 ⟨rfl, hb4⟩
        refine ⟨_, rfl, ?_⟩
        rw [EL.out]
        have H4 := Aside0.mk (HD.out.from_below hb4)
        clear hb4
        have q10 := H4.out.cellAt b1 0 (v := .string t) rfl
        have q11 := H4.out.cellAt b1 1 (v := .int .i64 dur) rfl
        have q12 := H4.out.cellAt b1 2 (v := .int .i64 room) rfl
        have q13 := H4.out.cellAt b1 3 (v := .slice A n c) rfl
        have q14 := H4.out.cellAt b1 4 (v := .slice B m d) rfl
        have q20 := H4.out.cellAt b2 0 (v := .int .i64 M.kind) rfl
        have q23 := H4.out.cellAt b2 3 (v := .int .i64 M.id) rfl
        have q24 := H4.out.cellAt b2 4 (v := .int .i64 M.rev) rfl
        have LAH4 := Aside0.mk (ref_iss (H4.out.at (crow 12 27 A n c (issCells s.iss))) NN.out NB)
        have LBH4 := Aside0.mk (ref_done (H4.out.at (crow 1 2 B m d (s.done.flatMap intC))) MM.out MB)
        refine hK.out _ _ ⟨q10, q11, q12, q13, q14, q20, q23, q24⟩ (fun hHeld => ?_)
        clear hK K
        refine norm_ (a' := ?_) ?_ ?_
        rotate_left
        · show Act.put _ (some 14) _ = _
          simp only [Act.put, List.setIfInBounds_toArray, List.set_cons_zero, List.set_cons_succ, i64_w, i32_w]
          rfl
        refine pure_ (i := 8) (N := some 15) (v := ?_) (a' := ?_) #[true, true, true, true, true, true, true, true, true, false, false, false, false, false, false, false, false] rfl rfl (by kernel_rfl) (fun _ _ _ h => h) (Or.inl ⟨by rfl, ?_⟩) ?_ ?_
        rotate_left
        · intro w'
          go_simp
          with_reducible rfl
        rotate_left
        · simp only [Act.put, List.setIfInBounds_toArray, List.set_cons_zero, List.set_cons_succ, i64_w, i32_w]
          rfl
        refine pure_ (i := 9) (N := some 16) (v := ?_) (a' := ?_) #[true, true, true, true, true, true, true, true, true, true, false, false, false, false, false, false, false] rfl rfl (by kernel_rfl) (fun _ _ _ h => h) (Or.inl ⟨by rfl, ?_⟩) ?_ ?_
        rotate_left
        · intro w'
          go_simp
          with_reducible rfl
        rotate_left
        · simp only [Act.put, List.setIfInBounds_toArray, List.set_cons_zero, List.set_cons_succ, i64_w, i32_w]
          rfl
        refine pure_ (i := 10) (N := some 17) (v := ?_) (a' := ?_) #[true, true, true, true, true, true, true, true, true, true, true, false, false, false, false, false, false] rfl rfl (by kernel_rfl) (fun _ _ _ h => h) (Or.inl ⟨by rfl, ?_⟩) ?_ ?_
        rotate_left
        · intro w'
          go_simp
          with_reducible rfl
        rotate_left
        · simp only [Act.put, List.setIfInBounds_toArray, List.set_cons_zero, List.set_cons_succ, i64_w, i32_w]
          rfl
        refine pure_ (i := 12) (N := some 19) (v := ?_) (a' := ?_) #[true, true, true, true, true, true, true, true, true, true, true, false, true, false, false, false, false] rfl rfl (by kernel_rfl) (fun _ _ _ h => h) (Or.inl ⟨by rfl, ?_⟩) ?_ ?_
        rotate_left
        · intro w'
          go_simp
          with_reducible rfl
        rotate_left
        · simp only [Act.put, List.setIfInBounds_toArray, List.set_cons_zero, List.set_cons_succ, i64_w, i32_w]
          rfl
        refine take_ (i := 11) (N := some 18) (v := ?_) (a' := ?_) #[true, true, true, true, true, true, true, true, true, true, true, true, true, false, false, false, false] rfl rfl (by kernel_rfl) (fun _ _ _ h => h) (Or.inl ⟨by rfl, ?_⟩) hHeld ?_ ?_
        rotate_left
        · rintro w' ⟨s0, s1, s2, s3, s4, s5, s6, s7⟩
          go_simp
          with_reducible rfl
        rotate_left
        · simp only [Act.put, List.setIfInBounds_toArray, List.set_cons_zero, List.set_cons_succ, i64_w, i32_w]
          rfl
        refine take_ (i := 13) (N := some 20) (v := ?_) (a' := ?_) #[true, true, true, true, true, true, true, true, true, true, true, true, true, true, false, false, false] rfl rfl (by kernel_rfl) (fun _ _ _ h => h) (Or.inl ⟨by rfl, ?_⟩) hHeld ?_ ?_
        rotate_left
        · rintro w' ⟨s0, s1, s2, s3, s4, s5, s6, s7⟩
          go_simp
          with_reducible rfl
        rotate_left
        · simp only [Act.put, List.setIfInBounds_toArray, List.set_cons_zero, List.set_cons_succ, i64_w, i32_w]
          rfl
        refine one_ (i := 14) (N := some 21) #[true, true, true, true, true, true, true, true, true, true, true, true, true, true, true, false, false] rfl rfl (by kernel_rfl) (by decide) (fun K hK => ?_)
        refine goes_ Try.func90 (by kernel_rfl) rfl #[.agg #[.string t, .int .i64 dur, .int .i64 room, .slice A n c, .slice B m d], .int .i64 M.id] (by rfl) rfl rfl (by simp only [List.map_toArray, List.map_cons, List.map_nil]; rfl) ?_
        with_reducible refine (r14rev_ok t dur room A n c B m d s.iss s.done _ LAH4.out NB M.id).mono ?_
        rintro e w5 ⟨rfl, hb5⟩
        refine ⟨_, rfl, ?_⟩
        rw [ER.out]
        have H5 := Aside0.mk (H4.out.from_below hb5)
        clear hb5
        have r10 := H5.out.cellAt b1 0 (v := .string t) rfl
        have r11 := H5.out.cellAt b1 1 (v := .int .i64 dur) rfl
        have r12 := H5.out.cellAt b1 2 (v := .int .i64 room) rfl
        have r13 := H5.out.cellAt b1 3 (v := .slice A n c) rfl
        have r14 := H5.out.cellAt b1 4 (v := .slice B m d) rfl
        have r20 := H5.out.cellAt b2 0 (v := .int .i64 M.kind) rfl
        have r23 := H5.out.cellAt b2 3 (v := .int .i64 M.id) rfl
        have r24 := H5.out.cellAt b2 4 (v := .int .i64 M.rev) rfl
        refine hK.out _ _ ⟨r10, r11, r12, r13, r14, r20, r23, r24⟩ (fun hHeld => ?_)
        clear hK K
        refine norm_ (a' := ?_) ?_ ?_
        rotate_left
        · show Act.put _ (some 21) _ = _
          simp only [Act.put, List.setIfInBounds_toArray, List.set_cons_zero, List.set_cons_succ, i64_w, i32_w]
          rfl
        refine pure_ (i := 15) (N := some 22) (v := ?_) (a' := ?_) #[true, true, true, true, true, true, true, true, true, true, true, true, true, true, true, true, false] rfl rfl (by kernel_rfl) (fun _ _ _ h => h) (Or.inl ⟨by rfl, ?_⟩) ?_ ?_
        rotate_left
        · intro w'
          go_simp
          with_reducible rfl
        rotate_left
        · simp only [Act.put, List.setIfInBounds_toArray, List.set_cons_zero, List.set_cons_succ, i64_w, i32_w]
          rfl
        refine pure_ (i := 16) (N := some 23) (v := ?_) (a' := ?_) #[true, true, true, true, true, true, true, true, true, true, true, true, true, true, true, true, true] rfl rfl (by kernel_rfl) (fun _ _ _ h => h) (Or.inl ⟨by rfl, ?_⟩) ?_ ?_
        rotate_left
        · intro w'
          go_simp
          with_reducible rfl
        rotate_left
        · simp only [Act.put, List.setIfInBounds_toArray, List.set_cons_zero, List.set_cons_succ, i64_w, i32_w]
          rfl
        refine done_ (by kernel_rfl) ?_
        clear hHeld
        have HE := Aside0.mk (crow_blk (sz := 12) (n := 0) (cs := []) rfl (by unfold maxLen; omega) (fun u hu => by simp at hu) (H5.out.alloc (.cells ([] : List Value).toArray 27 (0, 0))))
        have RD := Aside0.mk (show 0 < n → ∃ ad, A = some ad ∧ ∀ j u, (issCells s.iss)[j]? = some u → (w5.alloc (.cells ([] : List Value).toArray 27 (0, 0))).cell? (ad.add j) = some u from fun hp => crow_reads (HE.out.at (crow 12 27 A n c (issCells s.iss))) hp)
        have CLn := Aside0.mk (show (issCells s.iss).length = n * 12 from crow_len (H5.out.at (crow 12 27 A n c (issCells s.iss))))
        have lt1 := H5.out.ltB b1
        have lt2 := H5.out.ltB b2
        have lt3 := H5.out.ltB b3
        go_wp2_with (first | (at_builtin; (refine crow_append (news := (issCells s.iss)) (m := n) (c := c) rfl (.tmp 24) (.tmp 26) 47 (.agg #[.int .i64 0, .int .i64 0, .int .i64 0, .int .i64 0, .int .i64 0, .int .i64 0, .int .i64 0, .bool false, .slice none 0 0, .slice none 0 0, .slice none 0 0, .slice none 0 0]) 160 rfl Try.underlying47 Try.infoMsg rfl (by decide) rfl rfl HE.out CLn.out (iss_cells s.iss) RD.out (by decide) (by omega) ?_); intro A6 c6 w6 H6'; have H6h := H6'.out; rw [Nat.zero_add, List.nil_append] at H6h; have H6 := Aside0.mk H6h; clear H6h H6'; have s10 := H6.out.cellAt b1 0 (v := .string t) rfl; have s11 := H6.out.cellAt b1 1 (v := .int .i64 dur) rfl; have s12 := H6.out.cellAt b1 2 (v := .int .i64 room) rfl; have s13 := H6.out.cellAt b1 3 (v := .slice A n c) rfl; have s14 := H6.out.cellAt b1 4 (v := .slice B m d) rfl; have s20 := H6.out.cellAt b2 0 (v := .int .i64 M.kind) rfl; have s23 := H6.out.cellAt b2 3 (v := .int .i64 M.id) rfl; have s24 := H6.out.cellAt b2 4 (v := .int .i64 M.rev) rfl; have s0 := H6.out.cellAt b2 1 (v := .int .i64 M.src) rfl; have lt4 := H6.out.ltB b1; have lt5 := H6.out.ltB b2; have lt6 := H6.out.ltB b3; have H6n := (H6.out.alloc (.cells #[.int .i64 1, .int .i64 M.src, .int .i64 0, .int .i64 M.id, .int .i64 M.rev, .int .i64 0, .int .i64 0, .bool false, .slice none 0 0, .slice none 0 0, .slice none 0 0, .slice none 0 0] 27)); have H6m := Aside0.mk (H6n.at (crow 12 27 A6 n c6 (issCells s.iss))); have RDB := blk_cells H6n; clear H6n) | (at_builtin; (refine crow_append (n := n) (news := [.int .i64 1, .int .i64 M.src, .int .i64 0, .int .i64 M.id, .int .i64 M.rev, .int .i64 0, .int .i64 0, .bool false, .slice none 0 0, .slice none 0 0, .slice none 0 0, .slice none 0 0]) (m := 1) (c := 1) rfl (.tmp 28) (.tmp 36) 47 (.agg #[.int .i64 0, .int .i64 0, .int .i64 0, .int .i64 0, .int .i64 0, .int .i64 0, .int .i64 0, .bool false, .slice none 0 0, .slice none 0 0, .slice none 0 0, .slice none 0 0]) 160 rfl Try.underlying47 Try.infoMsg rfl (by decide) rfl rfl H6m.out rfl (by intro u hu; simp only [List.mem_cons, List.not_mem_nil, or_false] at hu; rcases hu with rfl | rfl | rfl | rfl | rfl | rfl | rfl | rfl | rfl | rfl | rfl | rfl <;> rfl) (fun _ => ⟨_, rfl, RDB⟩) (by decide) (by omega) ?_); intro A7 c7 w7 H7'; have H7 := H7'; have u10 := H7.out.cellAt b1 0 (v := .string t) rfl; have u11 := H7.out.cellAt b1 1 (v := .int .i64 dur) rfl; have u12 := H7.out.cellAt b1 2 (v := .int .i64 room) rfl; have u13 := H7.out.cellAt b1 3 (v := .slice A n c) rfl; have u14 := H7.out.cellAt b1 4 (v := .slice B m d) rfl; have u20 := H7.out.cellAt b2 0 (v := .int .i64 M.kind) rfl; have u23 := H7.out.cellAt b2 3 (v := .int .i64 M.id) rfl; have u24 := H7.out.cellAt b2 4 (v := .int .i64 M.rev) rfl; have fz := H7.out.freeAt b1; have H8 := Aside0.mk (H7.out.setAt b1 3 (.slice A7 (n + 1) c7)); have H9 := Aside0.mk (H8.out.atB b3)) | (refine Hw.store_row rfl 77 (.tmp 4) (.tmp 66) rfl b3 #[.string t, .int .i64 dur, .int .i64 room, .slice A7 (n + 1) c7, .slice B m d] rfl rfl H9.out (by kernel_rfl) (by rfl) (by first | kernel_rfl | rfl | simp [Value.oneCell']) ?_; intro wz HZ; have y0 := HZ.out.cellAt b3 0 (v := .string t) rfl; have y1 := HZ.out.cellAt b3 1 (v := .int .i64 dur) rfl; have y2 := HZ.out.cellAt b3 2 (v := .int .i64 room) rfl; have y3 := HZ.out.cellAt b3 3 (v := .slice A7 (n + 1) c7) rfl; have y4 := HZ.out.cellAt b3 4 (v := .slice B m d) rfl))
        exact bodyPost_ret (v := .agg #[.string t, .int .i64 dur, .int .i64 room, .slice A7 (n + 1) c7, .slice B m d]) (by simp [results, Try.results88, go_sem, y0, y1, y2, y3, y4]) rfl ⟨A7, n + 1, c7, B, m, d, rfl, by rw [RE.out, NN.out, List.length_append]; rfl, by rw [RE.out]; exact MM.out, by
          rw [RE.out]
          unfold issCells
          rw [List.map_append, List.flatMap_append]
          have hz := ((HZ.out.dropB b3).dropB b2).dropB b1
          exact rp1 hz⟩
      · have e4 : (rv == 0) = false := by simpa using k3
        have RE := Aside0.mk (show oreplay s M = s by rw [OR.out, if_neg (fun h => k3 h.2.2), if_neg (fun h => by rw [K1.out] at h; exact absurd h.1 (by decide))])
        clear k3
        refine start_ (n := 17) (S := fun w' => w'.cell? ⟨b1, 0, none⟩ = some (.string t) ∧ w'.cell? ⟨b1, 1, none⟩ = some (.int .i64 dur) ∧ w'.cell? ⟨b1, 2, none⟩ = some (.int .i64 room) ∧ w'.cell? ⟨b1, 3, none⟩ = some (.slice A n c) ∧ w'.cell? ⟨b1, 4, none⟩ = some (.slice B m d) ∧ w'.cell? ⟨b2, 0, none⟩ = some (.int .i64 M.kind) ∧ w'.cell? ⟨b2, 3, none⟩ = some (.int .i64 M.id) ∧ w'.cell? ⟨b2, 4, none⟩ = some (.int .i64 M.rev)) (ds := []) #[false, false, false, false, false, false, false, false, false, false, false, false, false, false, false, false, false] (by kernel_rfl) rfl rfl ⟨p10, p11, p12, p13, p14, p20, p23, p24⟩ (fun hHeld => ?_)
        refine pure_ (i := 0) (N := some 7) (v := ?_) (a' := ?_) #[true, false, false, false, false, false, false, false, false, false, false, false, false, false, false, false, false] rfl rfl (by kernel_rfl) (fun _ _ _ h => h) (Or.inl ⟨by rfl, ?_⟩) ?_ ?_
        rotate_left
        · intro w'
          go_simp
          with_reducible rfl
        rotate_left
        · simp only [Act.put, List.setIfInBounds_toArray, List.set_cons_zero, List.set_cons_succ, i64_w, i32_w]
          rfl
        refine take_ (i := 1) (N := some 8) (v := ?_) (a' := ?_) #[true, true, false, false, false, false, false, false, false, false, false, false, false, false, false, false, false] rfl rfl (by kernel_rfl) (fun _ _ _ h => h) (Or.inl ⟨by rfl, ?_⟩) hHeld ?_ ?_
        rotate_left
        · rintro w' ⟨s0, s1, s2, s3, s4, s5, s6, s7⟩
          go_simp
          with_reducible rfl
        rotate_left
        · simp only [Act.put, List.setIfInBounds_toArray, List.set_cons_zero, List.set_cons_succ, i64_w, i32_w]
          rfl
        refine pure_ (i := 2) (N := some 9) (v := ?_) (a' := ?_) #[true, true, true, false, false, false, false, false, false, false, false, false, false, false, false, false, false] rfl rfl (by kernel_rfl) (fun _ _ _ h => h) (Or.inl ⟨by rfl, ?_⟩) ?_ ?_
        rotate_left
        · intro w'
          go_simp
          with_reducible rfl
        rotate_left
        · simp only [Act.put, List.setIfInBounds_toArray, List.set_cons_zero, List.set_cons_succ, i64_w, i32_w]
          rfl
        refine pure_ (i := 3) (N := some 10) (v := ?_) (a' := ?_) #[true, true, true, true, false, false, false, false, false, false, false, false, false, false, false, false, false] rfl rfl (by kernel_rfl) (fun _ _ _ h => h) (Or.inl ⟨by rfl, ?_⟩) ?_ ?_
        rotate_left
        · intro w'
          go_simp
          with_reducible rfl
        rotate_left
        · simp only [Act.put, List.setIfInBounds_toArray, List.set_cons_zero, List.set_cons_succ, i64_w, i32_w]
          rfl
        refine pure_ (i := 4) (N := some 11) (v := ?_) (a' := ?_) #[true, true, true, true, true, false, false, false, false, false, false, false, false, false, false, false, false] rfl rfl (by kernel_rfl) (fun _ _ _ h => h) (Or.inl ⟨by rfl, ?_⟩) ?_ ?_
        rotate_left
        · intro w'
          go_simp
          with_reducible rfl
        rotate_left
        · simp only [Act.put, List.setIfInBounds_toArray, List.set_cons_zero, List.set_cons_succ, i64_w, i32_w]
          rfl
        refine take_ (i := 5) (N := some 12) (v := ?_) (a' := ?_) #[true, true, true, true, true, true, false, false, false, false, false, false, false, false, false, false, false] rfl rfl (by kernel_rfl) (fun _ _ _ h => h) (Or.inl ⟨by rfl, ?_⟩) hHeld ?_ ?_
        rotate_left
        · rintro w' ⟨s0, s1, s2, s3, s4, s5, s6, s7⟩
          go_simp
          with_reducible rfl
        rotate_left
        · simp only [Act.put, List.setIfInBounds_toArray, List.set_cons_zero, List.set_cons_succ, i64_w, i32_w]
          rfl
        refine take_ (i := 6) (N := some 13) (v := ?_) (a' := ?_) #[true, true, true, true, true, true, true, false, false, false, false, false, false, false, false, false, false] rfl rfl (by kernel_rfl) (fun _ _ _ h => h) (Or.inl ⟨by rfl, ?_⟩) hHeld ?_ ?_
        rotate_left
        · rintro w' ⟨s0, s1, s2, s3, s4, s5, s6, s7⟩
          go_simp
          with_reducible rfl
        rotate_left
        · simp only [Act.put, List.setIfInBounds_toArray, List.set_cons_zero, List.set_cons_succ, i64_w, i32_w]
          rfl
        refine one_ (i := 7) (N := some 14) #[true, true, true, true, true, true, true, true, false, false, false, false, false, false, false, false, false] rfl rfl (by kernel_rfl) (by decide) (fun K hK => ?_)
        refine goes_ Try.func44 (by kernel_rfl) rfl #[.agg #[.string t, .int .i64 dur, .int .i64 room, .slice A n c, .slice B m d]] (by rfl) rfl rfl (by simp only [List.map_toArray, List.map_cons, List.map_nil]; rfl) ?_
        with_reducible refine (r14last_ok t dur room A n c B m d s.iss s.done _ LAHD.out NB).mono ?_
        rintro e w4 ⟨rfl, hb4⟩
        refine ⟨_, rfl, ?_⟩
        rw [EL.out]
        have H4 := Aside0.mk (HD.out.from_below hb4)
        clear hb4
        have q10 := H4.out.cellAt b1 0 (v := .string t) rfl
        have q11 := H4.out.cellAt b1 1 (v := .int .i64 dur) rfl
        have q12 := H4.out.cellAt b1 2 (v := .int .i64 room) rfl
        have q13 := H4.out.cellAt b1 3 (v := .slice A n c) rfl
        have q14 := H4.out.cellAt b1 4 (v := .slice B m d) rfl
        have q20 := H4.out.cellAt b2 0 (v := .int .i64 M.kind) rfl
        have q23 := H4.out.cellAt b2 3 (v := .int .i64 M.id) rfl
        have q24 := H4.out.cellAt b2 4 (v := .int .i64 M.rev) rfl
        have LAH4 := Aside0.mk (ref_iss (H4.out.at (crow 12 27 A n c (issCells s.iss))) NN.out NB)
        have LBH4 := Aside0.mk (ref_done (H4.out.at (crow 1 2 B m d (s.done.flatMap intC))) MM.out MB)
        refine hK.out _ _ ⟨q10, q11, q12, q13, q14, q20, q23, q24⟩ (fun hHeld => ?_)
        clear hK K
        refine norm_ (a' := ?_) ?_ ?_
        rotate_left
        · show Act.put _ (some 14) _ = _
          simp only [Act.put, List.setIfInBounds_toArray, List.set_cons_zero, List.set_cons_succ, i64_w, i32_w]
          rfl
        refine pure_ (i := 8) (N := some 15) (v := ?_) (a' := ?_) #[true, true, true, true, true, true, true, true, true, false, false, false, false, false, false, false, false] rfl rfl (by kernel_rfl) (fun _ _ _ h => h) (Or.inl ⟨by rfl, ?_⟩) ?_ ?_
        rotate_left
        · intro w'
          go_simp
          with_reducible rfl
        rotate_left
        · simp only [Act.put, List.setIfInBounds_toArray, List.set_cons_zero, List.set_cons_succ, i64_w, i32_w]
          rfl
        refine pure_ (i := 9) (N := some 16) (v := ?_) (a' := ?_) #[true, true, true, true, true, true, true, true, true, true, false, false, false, false, false, false, false] rfl rfl (by kernel_rfl) (fun _ _ _ h => h) (Or.inl ⟨by rfl, ?_⟩) ?_ ?_
        rotate_left
        · intro w'
          go_simp
          with_reducible rfl
        rotate_left
        · simp only [Act.put, List.setIfInBounds_toArray, List.set_cons_zero, List.set_cons_succ, i64_w, i32_w]
          rfl
        refine pure_ (i := 10) (N := some 17) (v := ?_) (a' := ?_) #[true, true, true, true, true, true, true, true, true, true, true, false, false, false, false, false, false] rfl rfl (by kernel_rfl) (fun _ _ _ h => h) (Or.inl ⟨by rfl, ?_⟩) ?_ ?_
        rotate_left
        · intro w'
          go_simp
          with_reducible rfl
        rotate_left
        · simp only [Act.put, List.setIfInBounds_toArray, List.set_cons_zero, List.set_cons_succ, i64_w, i32_w]
          rfl
        refine pure_ (i := 12) (N := some 19) (v := ?_) (a' := ?_) #[true, true, true, true, true, true, true, true, true, true, true, false, true, false, false, false, false] rfl rfl (by kernel_rfl) (fun _ _ _ h => h) (Or.inl ⟨by rfl, ?_⟩) ?_ ?_
        rotate_left
        · intro w'
          go_simp
          with_reducible rfl
        rotate_left
        · simp only [Act.put, List.setIfInBounds_toArray, List.set_cons_zero, List.set_cons_succ, i64_w, i32_w]
          rfl
        refine take_ (i := 11) (N := some 18) (v := ?_) (a' := ?_) #[true, true, true, true, true, true, true, true, true, true, true, true, true, false, false, false, false] rfl rfl (by kernel_rfl) (fun _ _ _ h => h) (Or.inl ⟨by rfl, ?_⟩) hHeld ?_ ?_
        rotate_left
        · rintro w' ⟨s0, s1, s2, s3, s4, s5, s6, s7⟩
          go_simp
          with_reducible rfl
        rotate_left
        · simp only [Act.put, List.setIfInBounds_toArray, List.set_cons_zero, List.set_cons_succ, i64_w, i32_w]
          rfl
        refine take_ (i := 13) (N := some 20) (v := ?_) (a' := ?_) #[true, true, true, true, true, true, true, true, true, true, true, true, true, true, false, false, false] rfl rfl (by kernel_rfl) (fun _ _ _ h => h) (Or.inl ⟨by rfl, ?_⟩) hHeld ?_ ?_
        rotate_left
        · rintro w' ⟨s0, s1, s2, s3, s4, s5, s6, s7⟩
          go_simp
          with_reducible rfl
        rotate_left
        · simp only [Act.put, List.setIfInBounds_toArray, List.set_cons_zero, List.set_cons_succ, i64_w, i32_w]
          rfl
        refine one_ (i := 14) (N := some 21) #[true, true, true, true, true, true, true, true, true, true, true, true, true, true, true, false, false] rfl rfl (by kernel_rfl) (by decide) (fun K hK => ?_)
        refine goes_ Try.func90 (by kernel_rfl) rfl #[.agg #[.string t, .int .i64 dur, .int .i64 room, .slice A n c, .slice B m d], .int .i64 M.id] (by rfl) rfl rfl (by simp only [List.map_toArray, List.map_cons, List.map_nil]; rfl) ?_
        with_reducible refine (r14rev_ok t dur room A n c B m d s.iss s.done _ LAH4.out NB M.id).mono ?_
        rintro e w5 ⟨rfl, hb5⟩
        refine ⟨_, rfl, ?_⟩
        rw [ER.out]
        have H5 := Aside0.mk (H4.out.from_below hb5)
        clear hb5
        have r10 := H5.out.cellAt b1 0 (v := .string t) rfl
        have r11 := H5.out.cellAt b1 1 (v := .int .i64 dur) rfl
        have r12 := H5.out.cellAt b1 2 (v := .int .i64 room) rfl
        have r13 := H5.out.cellAt b1 3 (v := .slice A n c) rfl
        have r14 := H5.out.cellAt b1 4 (v := .slice B m d) rfl
        have r20 := H5.out.cellAt b2 0 (v := .int .i64 M.kind) rfl
        have r23 := H5.out.cellAt b2 3 (v := .int .i64 M.id) rfl
        have r24 := H5.out.cellAt b2 4 (v := .int .i64 M.rev) rfl
        refine hK.out _ _ ⟨r10, r11, r12, r13, r14, r20, r23, r24⟩ (fun hHeld => ?_)
        clear hK K
        refine norm_ (a' := ?_) ?_ ?_
        rotate_left
        · show Act.put _ (some 21) _ = _
          simp only [Act.put, List.setIfInBounds_toArray, List.set_cons_zero, List.set_cons_succ, i64_w, i32_w]
          rfl
        refine pure_ (i := 15) (N := some 22) (v := ?_) (a' := ?_) #[true, true, true, true, true, true, true, true, true, true, true, true, true, true, true, true, false] rfl rfl (by kernel_rfl) (fun _ _ _ h => h) (Or.inl ⟨by rfl, ?_⟩) ?_ ?_
        rotate_left
        · intro w'
          go_simp
          with_reducible rfl
        rotate_left
        · simp only [Act.put, List.setIfInBounds_toArray, List.set_cons_zero, List.set_cons_succ, i64_w, i32_w]
          rfl
        refine pure_ (i := 16) (N := some 23) (v := ?_) (a' := ?_) #[true, true, true, true, true, true, true, true, true, true, true, true, true, true, true, true, true] rfl rfl (by kernel_rfl) (fun _ _ _ h => h) (Or.inl ⟨by rfl, ?_⟩) ?_ ?_
        rotate_left
        · intro w'
          go_simp
          with_reducible rfl
        rotate_left
        · simp only [Act.put, List.setIfInBounds_toArray, List.set_cons_zero, List.set_cons_succ, i64_w, i32_w]
          rfl
        refine done_ (by kernel_rfl) ?_
        clear hHeld
        go_wp2_with (refine Hw.store_row rfl 77 (.tmp 4) (.tmp 66) rfl b3 #[.string t, .int .i64 dur, .int .i64 room, .slice A n c, .slice B m d] rfl rfl H5.out (by kernel_rfl) (by rfl) (by first | kernel_rfl | rfl | simp [Value.oneCell']) ?_; intro wz HZ; have y0 := HZ.out.cellAt b3 0 (v := .string t) rfl; have y1 := HZ.out.cellAt b3 1 (v := .int .i64 dur) rfl; have y2 := HZ.out.cellAt b3 2 (v := .int .i64 room) rfl; have y3 := HZ.out.cellAt b3 3 (v := .slice A n c) rfl; have y4 := HZ.out.cellAt b3 4 (v := .slice B m d) rfl)
        exact bodyPost_ret (v := .agg #[.string t, .int .i64 dur, .int .i64 room, .slice A n c, .slice B m d]) (by simp [results, Try.results88, go_sem, y0, y1, y2, y3, y4]) rfl ⟨A, n, c, B, m, d, rfl, by rw [RE.out]; exact NN.out, by rw [RE.out]; exact MM.out, by rw [RE.out]; exact HZ.out.right.right.right⟩
    · have e3 : decide (last < M.rev) = false := decide_eq_false k2
      have RE := Aside0.mk (show oreplay s M = s by rw [OR.out, if_neg (fun h => k2 h.2.1), if_neg (fun h => by rw [K1.out] at h; exact absurd h.1 (by decide))])
      clear k2
      refine start_ (n := 17) (S := fun w' => w'.cell? ⟨b1, 0, none⟩ = some (.string t) ∧ w'.cell? ⟨b1, 1, none⟩ = some (.int .i64 dur) ∧ w'.cell? ⟨b1, 2, none⟩ = some (.int .i64 room) ∧ w'.cell? ⟨b1, 3, none⟩ = some (.slice A n c) ∧ w'.cell? ⟨b1, 4, none⟩ = some (.slice B m d) ∧ w'.cell? ⟨b2, 0, none⟩ = some (.int .i64 M.kind) ∧ w'.cell? ⟨b2, 3, none⟩ = some (.int .i64 M.id) ∧ w'.cell? ⟨b2, 4, none⟩ = some (.int .i64 M.rev)) (ds := []) #[false, false, false, false, false, false, false, false, false, false, false, false, false, false, false, false, false] (by kernel_rfl) rfl rfl ⟨p10, p11, p12, p13, p14, p20, p23, p24⟩ (fun hHeld => ?_)
      refine pure_ (i := 0) (N := some 7) (v := ?_) (a' := ?_) #[true, false, false, false, false, false, false, false, false, false, false, false, false, false, false, false, false] rfl rfl (by kernel_rfl) (fun _ _ _ h => h) (Or.inl ⟨by rfl, ?_⟩) ?_ ?_
      rotate_left
      · intro w'
        go_simp
        with_reducible rfl
      rotate_left
      · simp only [Act.put, List.setIfInBounds_toArray, List.set_cons_zero, List.set_cons_succ, i64_w, i32_w]
        rfl
      refine take_ (i := 1) (N := some 8) (v := ?_) (a' := ?_) #[true, true, false, false, false, false, false, false, false, false, false, false, false, false, false, false, false] rfl rfl (by kernel_rfl) (fun _ _ _ h => h) (Or.inl ⟨by rfl, ?_⟩) hHeld ?_ ?_
      rotate_left
      · rintro w' ⟨s0, s1, s2, s3, s4, s5, s6, s7⟩
        go_simp
        with_reducible rfl
      rotate_left
      · simp only [Act.put, List.setIfInBounds_toArray, List.set_cons_zero, List.set_cons_succ, i64_w, i32_w]
        rfl
      refine pure_ (i := 2) (N := some 9) (v := ?_) (a' := ?_) #[true, true, true, false, false, false, false, false, false, false, false, false, false, false, false, false, false] rfl rfl (by kernel_rfl) (fun _ _ _ h => h) (Or.inl ⟨by rfl, ?_⟩) ?_ ?_
      rotate_left
      · intro w'
        go_simp
        with_reducible rfl
      rotate_left
      · simp only [Act.put, List.setIfInBounds_toArray, List.set_cons_zero, List.set_cons_succ, i64_w, i32_w]
        rfl
      refine pure_ (i := 3) (N := some 10) (v := ?_) (a' := ?_) #[true, true, true, true, false, false, false, false, false, false, false, false, false, false, false, false, false] rfl rfl (by kernel_rfl) (fun _ _ _ h => h) (Or.inl ⟨by rfl, ?_⟩) ?_ ?_
      rotate_left
      · intro w'
        go_simp
        with_reducible rfl
      rotate_left
      · simp only [Act.put, List.setIfInBounds_toArray, List.set_cons_zero, List.set_cons_succ, i64_w, i32_w]
        rfl
      refine pure_ (i := 4) (N := some 11) (v := ?_) (a' := ?_) #[true, true, true, true, true, false, false, false, false, false, false, false, false, false, false, false, false] rfl rfl (by kernel_rfl) (fun _ _ _ h => h) (Or.inl ⟨by rfl, ?_⟩) ?_ ?_
      rotate_left
      · intro w'
        go_simp
        with_reducible rfl
      rotate_left
      · simp only [Act.put, List.setIfInBounds_toArray, List.set_cons_zero, List.set_cons_succ, i64_w, i32_w]
        rfl
      refine take_ (i := 5) (N := some 12) (v := ?_) (a' := ?_) #[true, true, true, true, true, true, false, false, false, false, false, false, false, false, false, false, false] rfl rfl (by kernel_rfl) (fun _ _ _ h => h) (Or.inl ⟨by rfl, ?_⟩) hHeld ?_ ?_
      rotate_left
      · rintro w' ⟨s0, s1, s2, s3, s4, s5, s6, s7⟩
        go_simp
        with_reducible rfl
      rotate_left
      · simp only [Act.put, List.setIfInBounds_toArray, List.set_cons_zero, List.set_cons_succ, i64_w, i32_w]
        rfl
      refine take_ (i := 6) (N := some 13) (v := ?_) (a' := ?_) #[true, true, true, true, true, true, true, false, false, false, false, false, false, false, false, false, false] rfl rfl (by kernel_rfl) (fun _ _ _ h => h) (Or.inl ⟨by rfl, ?_⟩) hHeld ?_ ?_
      rotate_left
      · rintro w' ⟨s0, s1, s2, s3, s4, s5, s6, s7⟩
        go_simp
        with_reducible rfl
      rotate_left
      · simp only [Act.put, List.setIfInBounds_toArray, List.set_cons_zero, List.set_cons_succ, i64_w, i32_w]
        rfl
      refine one_ (i := 7) (N := some 14) #[true, true, true, true, true, true, true, true, false, false, false, false, false, false, false, false, false] rfl rfl (by kernel_rfl) (by decide) (fun K hK => ?_)
      refine goes_ Try.func44 (by kernel_rfl) rfl #[.agg #[.string t, .int .i64 dur, .int .i64 room, .slice A n c, .slice B m d]] (by rfl) rfl rfl (by simp only [List.map_toArray, List.map_cons, List.map_nil]; rfl) ?_
      with_reducible refine (r14last_ok t dur room A n c B m d s.iss s.done _ LAHD.out NB).mono ?_
      rintro e w4 ⟨rfl, hb4⟩
      refine ⟨_, rfl, ?_⟩
      rw [EL.out]
      have H4 := Aside0.mk (HD.out.from_below hb4)
      clear hb4
      have q10 := H4.out.cellAt b1 0 (v := .string t) rfl
      have q11 := H4.out.cellAt b1 1 (v := .int .i64 dur) rfl
      have q12 := H4.out.cellAt b1 2 (v := .int .i64 room) rfl
      have q13 := H4.out.cellAt b1 3 (v := .slice A n c) rfl
      have q14 := H4.out.cellAt b1 4 (v := .slice B m d) rfl
      have q20 := H4.out.cellAt b2 0 (v := .int .i64 M.kind) rfl
      have q23 := H4.out.cellAt b2 3 (v := .int .i64 M.id) rfl
      have q24 := H4.out.cellAt b2 4 (v := .int .i64 M.rev) rfl
      have LAH4 := Aside0.mk (ref_iss (H4.out.at (crow 12 27 A n c (issCells s.iss))) NN.out NB)
      have LBH4 := Aside0.mk (ref_done (H4.out.at (crow 1 2 B m d (s.done.flatMap intC))) MM.out MB)
      refine hK.out _ _ ⟨q10, q11, q12, q13, q14, q20, q23, q24⟩ (fun hHeld => ?_)
      clear hK K
      refine norm_ (a' := ?_) ?_ ?_
      rotate_left
      · show Act.put _ (some 14) _ = _
        simp only [Act.put, List.setIfInBounds_toArray, List.set_cons_zero, List.set_cons_succ, i64_w, i32_w]
        rfl
      refine pure_ (i := 8) (N := some 15) (v := ?_) (a' := ?_) #[true, true, true, true, true, true, true, true, true, false, false, false, false, false, false, false, false] rfl rfl (by kernel_rfl) (fun _ _ _ h => h) (Or.inl ⟨by rfl, ?_⟩) ?_ ?_
      rotate_left
      · intro w'
        go_simp
        with_reducible rfl
      rotate_left
      · simp only [Act.put, List.setIfInBounds_toArray, List.set_cons_zero, List.set_cons_succ, i64_w, i32_w]
        rfl
      refine pure_ (i := 9) (N := some 16) (v := ?_) (a' := ?_) #[true, true, true, true, true, true, true, true, true, true, false, false, false, false, false, false, false] rfl rfl (by kernel_rfl) (fun _ _ _ h => h) (Or.inl ⟨by rfl, ?_⟩) ?_ ?_
      rotate_left
      · intro w'
        go_simp
        with_reducible rfl
      rotate_left
      · simp only [Act.put, List.setIfInBounds_toArray, List.set_cons_zero, List.set_cons_succ, i64_w, i32_w]
        rfl
      refine pure_ (i := 10) (N := some 17) (v := ?_) (a' := ?_) #[true, true, true, true, true, true, true, true, true, true, true, false, false, false, false, false, false] rfl rfl (by kernel_rfl) (fun _ _ _ h => h) (Or.inl ⟨by rfl, ?_⟩) ?_ ?_
      rotate_left
      · intro w'
        go_simp
        with_reducible rfl
      rotate_left
      · simp only [Act.put, List.setIfInBounds_toArray, List.set_cons_zero, List.set_cons_succ, i64_w, i32_w]
        rfl
      refine pure_ (i := 11) (N := some 18) (v := undef) (a' := ?_) #[true, true, true, true, true, true, true, true, true, true, true, true, false, false, false, false, false] rfl rfl (by kernel_rfl) (fun _ _ _ h => h) (Or.inr ⟨by rfl, rfl⟩) ?_ ?_
      rotate_left
      · simp only [Act.put, List.setIfInBounds_toArray, List.set_cons_zero, List.set_cons_succ, i64_w, i32_w]
        rfl
      refine pure_ (i := 12) (N := some 19) (v := undef) (a' := ?_) #[true, true, true, true, true, true, true, true, true, true, true, true, true, false, false, false, false] rfl rfl (by kernel_rfl) (fun _ _ _ h => h) (Or.inr ⟨by rfl, rfl⟩) ?_ ?_
      rotate_left
      · simp only [Act.put, List.setIfInBounds_toArray, List.set_cons_zero, List.set_cons_succ, i64_w, i32_w]
        rfl
      refine pure_ (i := 13) (N := some 20) (v := undef) (a' := ?_) #[true, true, true, true, true, true, true, true, true, true, true, true, true, true, false, false, false] rfl rfl (by kernel_rfl) (fun _ _ _ h => h) (Or.inr ⟨by rfl, rfl⟩) ?_ ?_
      rotate_left
      · simp only [Act.put, List.setIfInBounds_toArray, List.set_cons_zero, List.set_cons_succ, i64_w, i32_w]
        rfl
      refine pure_ (i := 14) (N := some 21) (v := undef) (a' := ?_) #[true, true, true, true, true, true, true, true, true, true, true, true, true, true, true, false, false] rfl rfl (by kernel_rfl) (fun _ _ _ h => h) (Or.inr ⟨by rfl, rfl⟩) ?_ ?_
      rotate_left
      · simp only [Act.put, List.setIfInBounds_toArray, List.set_cons_zero, List.set_cons_succ, i64_w, i32_w]
        rfl
      refine pure_ (i := 15) (N := some 22) (v := undef) (a' := ?_) #[true, true, true, true, true, true, true, true, true, true, true, true, true, true, true, true, false] rfl rfl (by kernel_rfl) (fun _ _ _ h => h) (Or.inr ⟨by rfl, rfl⟩) ?_ ?_
      rotate_left
      · simp only [Act.put, List.setIfInBounds_toArray, List.set_cons_zero, List.set_cons_succ, i64_w, i32_w]
        rfl
      refine pure_ (i := 16) (N := some 23) (v := ?_) (a' := ?_) #[true, true, true, true, true, true, true, true, true, true, true, true, true, true, true, true, true] rfl rfl (by kernel_rfl) (fun _ _ _ h => h) (Or.inl ⟨by rfl, ?_⟩) ?_ ?_
      rotate_left
      · intro w'
        go_simp
        with_reducible rfl
      rotate_left
      · simp only [Act.put, List.setIfInBounds_toArray, List.set_cons_zero, List.set_cons_succ, i64_w, i32_w]
        rfl
      refine done_ (by kernel_rfl) ?_
      clear hHeld
      go_wp2_with (refine Hw.store_row rfl 77 (.tmp 4) (.tmp 66) rfl b3 #[.string t, .int .i64 dur, .int .i64 room, .slice A n c, .slice B m d] rfl rfl H4.out (by kernel_rfl) (by rfl) (by first | kernel_rfl | rfl | simp [Value.oneCell']) ?_; intro wz HZ; have y0 := HZ.out.cellAt b3 0 (v := .string t) rfl; have y1 := HZ.out.cellAt b3 1 (v := .int .i64 dur) rfl; have y2 := HZ.out.cellAt b3 2 (v := .int .i64 room) rfl; have y3 := HZ.out.cellAt b3 3 (v := .slice A n c) rfl; have y4 := HZ.out.cellAt b3 4 (v := .slice B m d) rfl)
      exact bodyPost_ret (v := .agg #[.string t, .int .i64 dur, .int .i64 room, .slice A n c, .slice B m d]) (by simp [results, Try.results88, go_sem, y0, y1, y2, y3, y4]) rfl ⟨A, n, c, B, m, d, rfl, by rw [RE.out]; exact NN.out, by rw [RE.out]; exact MM.out, by rw [RE.out]; exact HZ.out.right.right.right⟩
  · have e1 : (M.kind == 1) = false := by simpa using k1
    have K1 := Aside0.mk k1
    clear k1
    refine start_ (n := 17) (S := fun w' => w'.cell? ⟨b1, 0, none⟩ = some (.string t) ∧ w'.cell? ⟨b1, 1, none⟩ = some (.int .i64 dur) ∧ w'.cell? ⟨b1, 2, none⟩ = some (.int .i64 room) ∧ w'.cell? ⟨b1, 3, none⟩ = some (.slice A n c) ∧ w'.cell? ⟨b1, 4, none⟩ = some (.slice B m d) ∧ w'.cell? ⟨b2, 0, none⟩ = some (.int .i64 M.kind) ∧ w'.cell? ⟨b2, 3, none⟩ = some (.int .i64 M.id) ∧ w'.cell? ⟨b2, 4, none⟩ = some (.int .i64 M.rev)) (ds := []) #[false, false, false, false, false, false, false, false, false, false, false, false, false, false, false, false, false] (by kernel_rfl) rfl rfl ⟨p10, p11, p12, p13, p14, p20, p23, p24⟩ (fun hHeld => ?_)
    refine pure_ (i := 0) (N := some 7) (v := ?_) (a' := ?_) #[true, false, false, false, false, false, false, false, false, false, false, false, false, false, false, false, false] rfl rfl (by kernel_rfl) (fun _ _ _ h => h) (Or.inl ⟨by rfl, ?_⟩) ?_ ?_
    rotate_left
    · intro w'
      go_simp
      with_reducible rfl
    rotate_left
    · simp only [Act.put, List.setIfInBounds_toArray, List.set_cons_zero, List.set_cons_succ, i64_w, i32_w]
      rfl
    refine take_ (i := 1) (N := some 8) (v := ?_) (a' := ?_) #[true, true, false, false, false, false, false, false, false, false, false, false, false, false, false, false, false] rfl rfl (by kernel_rfl) (fun _ _ _ h => h) (Or.inl ⟨by rfl, ?_⟩) hHeld ?_ ?_
    rotate_left
    · rintro w' ⟨s0, s1, s2, s3, s4, s5, s6, s7⟩
      go_simp
      with_reducible rfl
    rotate_left
    · simp only [Act.put, List.setIfInBounds_toArray, List.set_cons_zero, List.set_cons_succ, i64_w, i32_w]
      rfl
    refine pure_ (i := 2) (N := some 9) (v := ?_) (a' := ?_) #[true, true, true, false, false, false, false, false, false, false, false, false, false, false, false, false, false] rfl rfl (by kernel_rfl) (fun _ _ _ h => h) (Or.inl ⟨by rfl, ?_⟩) ?_ ?_
    rotate_left
    · intro w'
      go_simp
      with_reducible rfl
    rotate_left
    · simp only [Act.put, List.setIfInBounds_toArray, List.set_cons_zero, List.set_cons_succ, i64_w, i32_w]
      rfl
    refine pure_ (i := 3) (N := some 10) (v := ?_) (a' := ?_) #[true, true, true, true, false, false, false, false, false, false, false, false, false, false, false, false, false] rfl rfl (by kernel_rfl) (fun _ _ _ h => h) (Or.inl ⟨by rfl, ?_⟩) ?_ ?_
    rotate_left
    · intro w'
      go_simp
      with_reducible rfl
    rotate_left
    · simp only [Act.put, List.setIfInBounds_toArray, List.set_cons_zero, List.set_cons_succ, i64_w, i32_w]
      rfl
    refine pure_ (i := 4) (N := some 11) (v := undef) (a' := ?_) #[true, true, true, true, true, false, false, false, false, false, false, false, false, false, false, false, false] rfl rfl (by kernel_rfl) (fun _ _ _ h => h) (Or.inr ⟨by rfl, rfl⟩) ?_ ?_
    rotate_left
    · simp only [Act.put, List.setIfInBounds_toArray, List.set_cons_zero, List.set_cons_succ, i64_w, i32_w]
      rfl
    refine pure_ (i := 5) (N := some 12) (v := undef) (a' := ?_) #[true, true, true, true, true, true, false, false, false, false, false, false, false, false, false, false, false] rfl rfl (by kernel_rfl) (fun _ _ _ h => h) (Or.inr ⟨by rfl, rfl⟩) ?_ ?_
    rotate_left
    · simp only [Act.put, List.setIfInBounds_toArray, List.set_cons_zero, List.set_cons_succ, i64_w, i32_w]
      rfl
    refine pure_ (i := 6) (N := some 13) (v := undef) (a' := ?_) #[true, true, true, true, true, true, true, false, false, false, false, false, false, false, false, false, false] rfl rfl (by kernel_rfl) (fun _ _ _ h => h) (Or.inr ⟨by rfl, rfl⟩) ?_ ?_
    rotate_left
    · simp only [Act.put, List.setIfInBounds_toArray, List.set_cons_zero, List.set_cons_succ, i64_w, i32_w]
      rfl
    refine pure_ (i := 7) (N := some 14) (v := undef) (a' := ?_) #[true, true, true, true, true, true, true, true, false, false, false, false, false, false, false, false, false] rfl rfl (by kernel_rfl) (fun _ _ _ h => h) (Or.inr ⟨by rfl, rfl⟩) ?_ ?_
    rotate_left
    · simp only [Act.put, List.setIfInBounds_toArray, List.set_cons_zero, List.set_cons_succ, i64_w, i32_w]
      rfl
    refine pure_ (i := 8) (N := some 15) (v := undef) (a' := ?_) #[true, true, true, true, true, true, true, true, true, false, false, false, false, false, false, false, false] rfl rfl (by kernel_rfl) (fun _ _ _ h => h) (Or.inr ⟨by rfl, rfl⟩) ?_ ?_
    rotate_left
    · simp only [Act.put, List.setIfInBounds_toArray, List.set_cons_zero, List.set_cons_succ, i64_w, i32_w]
      rfl
    refine pure_ (i := 9) (N := some 16) (v := ?_) (a' := ?_) #[true, true, true, true, true, true, true, true, true, true, false, false, false, false, false, false, false] rfl rfl (by kernel_rfl) (fun _ _ _ h => h) (Or.inl ⟨by rfl, ?_⟩) ?_ ?_
    rotate_left
    · intro w'
      go_simp
      with_reducible rfl
    rotate_left
    · simp only [Act.put, List.setIfInBounds_toArray, List.set_cons_zero, List.set_cons_succ, i64_w, i32_w]
      rfl
    refine pure_ (i := 10) (N := some 17) (v := ?_) (a' := ?_) #[true, true, true, true, true, true, true, true, true, true, true, false, false, false, false, false, false] rfl rfl (by kernel_rfl) (fun _ _ _ h => h) (Or.inl ⟨by rfl, ?_⟩) ?_ ?_
    rotate_left
    · intro w'
      go_simp
      with_reducible rfl
    rotate_left
    · simp only [Act.put, List.setIfInBounds_toArray, List.set_cons_zero, List.set_cons_succ, i64_w, i32_w]
      rfl
    refine pure_ (i := 11) (N := some 18) (v := undef) (a' := ?_) #[true, true, true, true, true, true, true, true, true, true, true, true, false, false, false, false, false] rfl rfl (by kernel_rfl) (fun _ _ _ h => h) (Or.inr ⟨by rfl, rfl⟩) ?_ ?_
    rotate_left
    · simp only [Act.put, List.setIfInBounds_toArray, List.set_cons_zero, List.set_cons_succ, i64_w, i32_w]
      rfl
    refine pure_ (i := 12) (N := some 19) (v := undef) (a' := ?_) #[true, true, true, true, true, true, true, true, true, true, true, true, true, false, false, false, false] rfl rfl (by kernel_rfl) (fun _ _ _ h => h) (Or.inr ⟨by rfl, rfl⟩) ?_ ?_
    rotate_left
    · simp only [Act.put, List.setIfInBounds_toArray, List.set_cons_zero, List.set_cons_succ, i64_w, i32_w]
      rfl
    refine pure_ (i := 13) (N := some 20) (v := undef) (a' := ?_) #[true, true, true, true, true, true, true, true, true, true, true, true, true, true, false, false, false] rfl rfl (by kernel_rfl) (fun _ _ _ h => h) (Or.inr ⟨by rfl, rfl⟩) ?_ ?_
    rotate_left
    · simp only [Act.put, List.setIfInBounds_toArray, List.set_cons_zero, List.set_cons_succ, i64_w, i32_w]
      rfl
    refine pure_ (i := 14) (N := some 21) (v := undef) (a' := ?_) #[true, true, true, true, true, true, true, true, true, true, true, true, true, true, true, false, false] rfl rfl (by kernel_rfl) (fun _ _ _ h => h) (Or.inr ⟨by rfl, rfl⟩) ?_ ?_
    rotate_left
    · simp only [Act.put, List.setIfInBounds_toArray, List.set_cons_zero, List.set_cons_succ, i64_w, i32_w]
      rfl
    refine pure_ (i := 15) (N := some 22) (v := undef) (a' := ?_) #[true, true, true, true, true, true, true, true, true, true, true, true, true, true, true, true, false] rfl rfl (by kernel_rfl) (fun _ _ _ h => h) (Or.inr ⟨by rfl, rfl⟩) ?_ ?_
    rotate_left
    · simp only [Act.put, List.setIfInBounds_toArray, List.set_cons_zero, List.set_cons_succ, i64_w, i32_w]
      rfl
    refine pure_ (i := 16) (N := some 23) (v := ?_) (a' := ?_) #[true, true, true, true, true, true, true, true, true, true, true, true, true, true, true, true, true] rfl rfl (by kernel_rfl) (fun _ _ _ h => h) (Or.inl ⟨by rfl, ?_⟩) ?_ ?_
    rotate_left
    · intro w'
      go_simp
      with_reducible rfl
    rotate_left
    · simp only [Act.put, List.setIfInBounds_toArray, List.set_cons_zero, List.set_cons_succ, i64_w, i32_w]
      rfl
    refine done_ (by kernel_rfl) ?_
    clear hHeld
    by_cases k2 : M.kind = 2
    · have e2 : (M.kind == 2) = true := by simpa using k2
      have K2 := Aside0.mk k2
      clear k2
      go_wp2_with fail
      refine (r14rev_ok t dur room A n c B m d s.iss s.done _ LAHD.out NB M.id).mono ?_
      rintro e w5 ⟨rfl, hb5⟩
      rw [ER.out]
      have H5' := Aside0.mk (HD.out.from_below hb5)
      clear hb5 p10 p11 p12 p13 p14 p20 p23 p24
      have q10 := H5'.out.cellAt b1 0 (v := .string t) rfl
      have q11 := H5'.out.cellAt b1 1 (v := .int .i64 dur) rfl
      have q12 := H5'.out.cellAt b1 2 (v := .int .i64 room) rfl
      have q13 := H5'.out.cellAt b1 3 (v := .slice A n c) rfl
      have q14 := H5'.out.cellAt b1 4 (v := .slice B m d) rfl
      have q20 := H5'.out.cellAt b2 0 (v := .int .i64 M.kind) rfl
      have q23 := H5'.out.cellAt b2 3 (v := .int .i64 M.id) rfl
      have q24 := H5'.out.cellAt b2 4 (v := .int .i64 M.rev) rfl
      have LA5 := Aside0.mk (ref_iss (H5'.out.at (crow 12 27 A n c (issCells s.iss))) NN.out NB)
      have LB5 := Aside0.mk (ref_done (H5'.out.at (crow 1 2 B m d (s.done.flatMap intC))) MM.out MB)
      by_cases k3 : rv = 0
      · have e4 : (rv != 0) = false := by simpa using k3
        have RE := Aside0.mk (show oreplay s M = s by rw [OR.out, if_neg (fun h => K1.out h.1), if_neg (fun h => h.2.1 k3)])
        clear k3
        go_wp2_with (refine Hw.store_row rfl 77 (.tmp 4) (.tmp 66) rfl b3 #[.string t, .int .i64 dur, .int .i64 room, .slice A n c, .slice B m d] rfl rfl H5'.out (by kernel_rfl) (by rfl) (by first | kernel_rfl | rfl | simp [Value.oneCell']) ?_; intro wz HZ; have y0 := HZ.out.cellAt b3 0 (v := .string t) rfl; have y1 := HZ.out.cellAt b3 1 (v := .int .i64 dur) rfl; have y2 := HZ.out.cellAt b3 2 (v := .int .i64 room) rfl; have y3 := HZ.out.cellAt b3 3 (v := .slice A n c) rfl; have y4 := HZ.out.cellAt b3 4 (v := .slice B m d) rfl)
        exact bodyPost_ret (v := .agg #[.string t, .int .i64 dur, .int .i64 room, .slice A n c, .slice B m d]) (by simp [results, Try.results88, go_sem, y0, y1, y2, y3, y4]) rfl ⟨A, n, c, B, m, d, rfl, by rw [RE.out]; exact NN.out, by rw [RE.out]; exact MM.out, by rw [RE.out]; exact HZ.out.right.right.right⟩
      · have e4 : (rv != 0) = true := by simpa using k3
        have K3 := Aside0.mk k3
        clear k3
        go_wp2_with fail
        refine (r14done_ok t dur room A n c B m d s.iss s.done _ LA5.out NB LB5.out M.id MB).mono ?_
        rintro e w5 ⟨rfl, hb5⟩
        have H5 := Aside0.mk (H5'.out.from_below hb5)
        clear hb5 q10 q11 q12 q13 q14 q20 q23 q24
        have q10 := H5.out.cellAt b1 0 (v := .string t) rfl
        have q11 := H5.out.cellAt b1 1 (v := .int .i64 dur) rfl
        have q12 := H5.out.cellAt b1 2 (v := .int .i64 room) rfl
        have q13 := H5.out.cellAt b1 3 (v := .slice A n c) rfl
        have q14 := H5.out.cellAt b1 4 (v := .slice B m d) rfl
        have q20 := H5.out.cellAt b2 0 (v := .int .i64 M.kind) rfl
        have q23 := H5.out.cellAt b2 3 (v := .int .i64 M.id) rfl
        have q24 := H5.out.cellAt b2 4 (v := .int .i64 M.rev) rfl
        by_cases k4 : M.id ∈ s.done
        · have RE := Aside0.mk (show oreplay s M = s by rw [OR.out, if_neg (fun h => K1.out h.1), if_neg (fun h => h.2.2 k4)])
          rw [decide_eq_true k4]
          clear k4
          go_wp2_with (refine Hw.store_row rfl 77 (.tmp 4) (.tmp 66) rfl b3 #[.string t, .int .i64 dur, .int .i64 room, .slice A n c, .slice B m d] rfl rfl H5.out (by kernel_rfl) (by rfl) (by first | kernel_rfl | rfl | simp [Value.oneCell']) ?_; intro wz HZ; have y0 := HZ.out.cellAt b3 0 (v := .string t) rfl; have y1 := HZ.out.cellAt b3 1 (v := .int .i64 dur) rfl; have y2 := HZ.out.cellAt b3 2 (v := .int .i64 room) rfl; have y3 := HZ.out.cellAt b3 3 (v := .slice A n c) rfl; have y4 := HZ.out.cellAt b3 4 (v := .slice B m d) rfl)
          exact bodyPost_ret (v := .agg #[.string t, .int .i64 dur, .int .i64 room, .slice A n c, .slice B m d]) (by simp [results, Try.results88, go_sem, y0, y1, y2, y3, y4]) rfl ⟨A, n, c, B, m, d, rfl, by rw [RE.out]; exact NN.out, by rw [RE.out]; exact MM.out, by rw [RE.out]; exact HZ.out.right.right.right⟩
        · have RE := Aside0.mk (show oreplay s M = ⟨s.iss, s.done ++ [M.id]⟩ by rw [OR.out, if_neg (fun h => K1.out h.1), if_pos ⟨K2.out, K3.out, k4⟩])
          rw [decide_eq_false k4]
          clear k4
          have HE := Aside0.mk (crow_blk (sz := 1) (n := 0) (cs := []) rfl (by unfold maxLen; omega) (fun u hu => by simp at hu) (H5.out.alloc (.cells ([] : List Value).toArray 2 (0, 0))))
          have RD := Aside0.mk (show 0 < m → ∃ ad, B = some ad ∧ ∀ j u, (s.done.flatMap intC)[j]? = some u → (w5.alloc (.cells ([] : List Value).toArray 2 (0, 0))).cell? (ad.add j) = some u from fun hp => crow_reads (HE.out.at (crow 1 2 B m d (s.done.flatMap intC))) hp)
          have CLn := Aside0.mk (show (s.done.flatMap intC).length = m * 1 from crow_len (H5.out.at (crow 1 2 B m d (s.done.flatMap intC))))
          have lt1 := H5.out.ltB b1
          have lt2 := H5.out.ltB b2
          have lt3 := H5.out.ltB b3
          go_wp2_with (first | (at_builtin; (refine crow_append (news := (s.done.flatMap intC)) (m := m) (c := d) rfl (.tmp 56) (.tmp 58) 75 (.int .i64 0) 8 rfl Try.underlying75 Try.infoI64 rfl (by decide) rfl rfl HE.out CLn.out (done_cells s.done) RD.out (by decide) (by omega) ?_); intro A6 c6 w6 H6'; have H6h := H6'.out; rw [Nat.zero_add, List.nil_append] at H6h; have H6 := Aside0.mk H6h; clear H6h H6'; have s10 := H6.out.cellAt b1 0 (v := .string t) rfl; have s11 := H6.out.cellAt b1 1 (v := .int .i64 dur) rfl; have s12 := H6.out.cellAt b1 2 (v := .int .i64 room) rfl; have s13 := H6.out.cellAt b1 3 (v := .slice A n c) rfl; have s14 := H6.out.cellAt b1 4 (v := .slice B m d) rfl; have s20 := H6.out.cellAt b2 0 (v := .int .i64 M.kind) rfl; have s23 := H6.out.cellAt b2 3 (v := .int .i64 M.id) rfl; have s24 := H6.out.cellAt b2 4 (v := .int .i64 M.rev) rfl; have s0 := H6.out.cellAt b2 1 (v := .int .i64 M.src) rfl; have lt4 := H6.out.ltB b1; have lt5 := H6.out.ltB b2; have lt6 := H6.out.ltB b3; have H6n := (H6.out.alloc (.cells #[.int .i64 M.id] 2)); have H6m := Aside0.mk (H6n.at (crow 1 2 A6 m c6 (s.done.flatMap intC))); have RDB := blk_cells H6n; clear H6n) | (at_builtin; (refine crow_append (n := m) (news := [.int .i64 M.id]) (m := 1) (c := 1) rfl (.tmp 60) (.tmp 63) 75 (.int .i64 0) 8 rfl Try.underlying75 Try.infoI64 rfl (by decide) rfl rfl H6m.out rfl (by intro u hu; simp only [List.mem_cons, List.not_mem_nil, or_false] at hu; subst hu; rfl) (fun _ => ⟨_, rfl, RDB⟩) (by decide) (by omega) ?_); intro A7 c7 w7 H7'; have H7 := H7'; have u10 := H7.out.cellAt b1 0 (v := .string t) rfl; have u11 := H7.out.cellAt b1 1 (v := .int .i64 dur) rfl; have u12 := H7.out.cellAt b1 2 (v := .int .i64 room) rfl; have u13 := H7.out.cellAt b1 3 (v := .slice A n c) rfl; have u14 := H7.out.cellAt b1 4 (v := .slice B m d) rfl; have u20 := H7.out.cellAt b2 0 (v := .int .i64 M.kind) rfl; have u23 := H7.out.cellAt b2 3 (v := .int .i64 M.id) rfl; have u24 := H7.out.cellAt b2 4 (v := .int .i64 M.rev) rfl; have fz := H7.out.freeAt b1; have H8 := Aside0.mk (H7.out.setAt b1 4 (.slice A7 (m + 1) c7)); have H9 := Aside0.mk (H8.out.atB b3)) | (refine Hw.store_row rfl 77 (.tmp 4) (.tmp 66) rfl b3 #[.string t, .int .i64 dur, .int .i64 room, .slice A n c, .slice A7 (m + 1) c7] rfl rfl H9.out (by kernel_rfl) (by rfl) (by first | kernel_rfl | rfl | simp [Value.oneCell']) ?_; intro wz HZ; have y0 := HZ.out.cellAt b3 0 (v := .string t) rfl; have y1 := HZ.out.cellAt b3 1 (v := .int .i64 dur) rfl; have y2 := HZ.out.cellAt b3 2 (v := .int .i64 room) rfl; have y3 := HZ.out.cellAt b3 3 (v := .slice A n c) rfl; have y4 := HZ.out.cellAt b3 4 (v := .slice A7 (m + 1) c7) rfl))
          exact bodyPost_ret (v := .agg #[.string t, .int .i64 dur, .int .i64 room, .slice A n c, .slice A7 (m + 1) c7]) (by simp [results, Try.results88, go_sem, y0, y1, y2, y3, y4]) rfl ⟨A, n, c, A7, m + 1, c7, rfl, by rw [RE.out]; exact NN.out, by rw [RE.out, MM.out, List.length_append]; rfl, by
            rw [RE.out]
            rw [List.flatMap_append]
            have hz := ((HZ.out.dropB b3).dropB b2).dropB b1
            exact rp2 hz⟩
    · have e2 : (M.kind == 2) = false := by simpa using k2
      have RE := Aside0.mk (show oreplay s M = s by rw [OR.out, if_neg (fun h => K1.out h.1), if_neg (fun h => k2 h.1)])
      clear k2
      go_wp2_with (refine Hw.store_row rfl 77 (.tmp 4) (.tmp 66) rfl b3 #[.string t, .int .i64 dur, .int .i64 room, .slice A n c, .slice B m d] rfl rfl HD.out (by kernel_rfl) (by rfl) (by first | kernel_rfl | rfl | simp [Value.oneCell']) ?_; intro wz HZ; have y0 := HZ.out.cellAt b3 0 (v := .string t) rfl; have y1 := HZ.out.cellAt b3 1 (v := .int .i64 dur) rfl; have y2 := HZ.out.cellAt b3 2 (v := .int .i64 room) rfl; have y3 := HZ.out.cellAt b3 3 (v := .slice A n c) rfl; have y4 := HZ.out.cellAt b3 4 (v := .slice B m d) rfl)
      exact bodyPost_ret (v := .agg #[.string t, .int .i64 dur, .int .i64 room, .slice A n c, .slice B m d]) (by simp [results, Try.results88, go_sem, y0, y1, y2, y3, y4]) rfl ⟨A, n, c, B, m, d, rfl, by rw [RE.out]; exact NN.out, by rw [RE.out]; exact MM.out, by rw [RE.out]; exact HZ.out.right.right.right⟩
end
end Go.Proofs.Ytckdkbjobipniaa
