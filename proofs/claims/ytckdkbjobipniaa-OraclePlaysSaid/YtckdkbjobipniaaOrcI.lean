/- The oracle's Issue, Resolve. Printed by wip/gen/orci.py. -/
import Derived.Test.YtckdkbjobipniaaOrcO
set_option linter.unusedVariables false
set_option linter.unusedSimpArgs false
namespace Go.Proofs.Ytckdkbjobipniaa
open Go.RowKit Go.Maps Go.Proofs.YtckdkbjobipniaaW.PrintWords Go.Proofs.YtckdkbjobipniaaW.PrintLast
section
variable {w0 w : World} {F X : HP} {o q p : Nat} {ms : List Msg} {room : Int}
set_option maxHeartbeats 12800000 in
set_option maxRecDepth 100000 in
theorem oissue_run (id src : Int) (h : OrcOn w0 w F o p ms room) (hs : OrcMs ms room) (hid : i64r id) (hsrc : i64r src) :
    Calls Try.prog 39 #[.pointer (some ⟨o, 0, none⟩), .int .i64 id, .int .i64 src] w fun e w' => ∃ ms2 r k, e = .returned (.tuple #[.int .i64 r, .int .i64 k]) ∧ Aside0 (oask ms room id src = (ms2, r, k)) ∧ OrcOn w0 w' F o p ms2 room := by
  obtain ⟨q, mb, A, n, c, g, hmi, hn, H⟩ := h
  obtain ⟨s, hss⟩ : ∃ s, s = oopen ms := ⟨_, rfl⟩
  obtain ⟨last, hlast⟩ : ∃ x, x = olast s := ⟨_, rfl⟩
  rw [← hss] at H hmi hn
  rw [← hlast] at H
  have SO := Aside0.mk (show OrcOk s by rw [hss]; exact oopen_ok ms)
  have LS := Aside0.mk (show 0 ≤ last ∧ last ≤ 9223372036854775807 by rw [hlast, hss]; exact hs.last)
  have SL := Aside0.mk (show s.iss.length ≤ 1000000 by have h1 := oopen_len ms; have h2 := hs.cnt; rw [hss]; omega)
  have EQ := Aside0.mk hss
  have EL := Aside0.mk hlast
  have MI := Aside0.mk hmi
  have NN := Aside0.mk hn
  have HS := Aside0.mk hs
  have H0 := Aside0.mk H
  have x0 := H.cellAt o 0 (v := .pointer (some ⟨q, 0, none⟩)) rfl
  have x1 := H.cellAt o 1 (v := .map (some mb)) rfl
  have x2 := H.cellAt o 2 (v := .slice A n c) rfl
  have x3 := H.cellAt o 3 (v := .int .i64 last) rfl
  have hwf : (Lit.int .i64 id).wf = true := WalkArith.wf_i64 (by unfold i64r at hid; omega)
  have KY := Aside0.mk (keyOf_int_mk (P := Try.prog) Try.underlying2 hwf)
  have HL := map_look (H.at (mapHP Try.prog 2 mb g s.iss.length)) (int_keyed Try.underlying2) Try.underlying93 (Try.zeroValue2 _) KY.out
  rw [MI.out id] at HL
  clear H hmi hn hss hlast hwf hs
  have OA := Aside0.mk (show oask ms room id src = if orev s id ≠ 0 then (ms, orev s id, 0) else if 1125899906842624 ≤ last then (ms, 0, 1) else if addErr (newM id src (last + 1)) (logB ms).length room = 0 then (ms ++ [newM id src (last + 1)], last + 1, 0) else (ms, 0, addErr (newM id src (last + 1)) (logB ms).length room) by
    unfold oask
    rw [← EQ.out, ← EL.out])
  by_cases hv : orev s id = 0
  · rw [if_pos hv] at HL
    rw [if_neg (fun hh => hh hv)] at OA
    have HV := Aside0.mk hv
    clear hv
    simp only [Option.getD_none] at HL
    by_cases hm : 1125899906842624 ≤ last
    · rw [if_pos hm] at OA
      have d2 : decide (1125899906842624 ≤ last) = true := decide_eq_true hm
      have d3 : decide (last ≥ 1125899906842624) = true := decide_eq_true hm
      clear hm
      go_enter Try.func39, Try.ntmps39
      go_wp2_with fail
      go_ret2
      exact ⟨ms, 0, 1, rfl, OA, q, mb, A, n, c, g, by rw [← EQ.out]; exact MI.out, by rw [← EQ.out]; exact NN.out, by rw [← EQ.out, ← EL.out]; exact H0.out⟩
    · rw [if_neg hm] at OA
      have d2 : decide (1125899906842624 ≤ last) = false := decide_eq_false hm
      have d3 : decide (last ≥ 1125899906842624) = false := decide_eq_false hm
      have ls := LS.out
      have rr : i64r (last + 1) := by unfold i64r; omega
      have GM := Aside0.mk (newM_good hid hsrc rr)
      have HM := Aside0.mk (show last < last + 1 by omega)
      have wr1 := (i64_in2 (last + 1) (by omega) (by omega)).1
      have wr2 := (i64_in2 (last + 1) (by omega) (by omega)).2
      clear hm rr ls
      have HX := Aside0.mk (H0.out.alloc (.cells #[.int .i64 0, .int .i64 0, .int .i64 0, .int .i64 0, .int .i64 0, .int .i64 0, .int .i64 0, .bool false, .slice none 0 0, .slice none 0 0, .slice none 0 0, .slice none 0 0] 27))
      by_cases hz : addErr (newM id src (last + 1)) (logB ms).length room = 0
      · rw [if_pos hz] at OA
        have ZZ := Aside0.mk hz
        clear hz
        go_enter Try.func39, Try.ntmps39
        go_upto_region 7 with (refine Hw.store_row rfl 27 (.tmp 9) (.tmp 34) rfl w.heap.size #[.int .i64 1, .int .i64 src, .int .i64 0, .int .i64 id, .int .i64 (last + 1), .int .i64 0, .int .i64 0, .bool false, .slice none 0 0, .slice none 0 0, .slice none 0 0, .slice none 0 0] rfl rfl HX.out (by kernel_rfl) (by rfl) (by first | kernel_rfl | rfl | simp [Value.oneCell']) ?_; intro w4 H4)
        clear x0 x1 x2 x3 HL d2 d3 wr1 wr2 HX H0
        obtain ⟨b, hb⟩ : ∃ b, b = w.heap.size := ⟨_, rfl⟩
        rw [← hb] at H4
        rw [← hb]
        clear hb
        have HD := Aside0.mk H4.out.drew
        have HE := Aside0.mk (HD.out.as (Q := (blk b (.cells #[.int .i64 1, .int .i64 src, .int .i64 0, .int .i64 id, .int .i64 (last + 1), .int .i64 0, .int .i64 0, .bool false, .slice none 0 0, .slice none 0 0, .slice none 0 0, .slice none 0 0] 27) * (orcB o q mb A n c last * (mapHP Try.prog 2 mb g s.iss.length * orcC A n c s))) * (logP q p (ms.length : Nat) * (disk p (logB ms) ((logB ms).length : Int) room * F))) (by ac_rfl))
        have WR := Aside0.mk (show Calls Try.prog 22 #[.pointer (some ⟨q, 0, none⟩), .agg #[.int .i64 1, .int .i64 src, .int .i64 0, .int .i64 id, .int .i64 (last + 1), .int .i64 0, .int .i64 0, .bool false, .slice none 0 0, .slice none 0 0, .slice none 0 0, .slice none 0 0]] w4.drew (fun e w' => e = .returned (.int .i64 0) ∧ Hw w0 w' ((blk b (.cells #[.int .i64 1, .int .i64 src, .int .i64 0, .int .i64 id, .int .i64 (last + 1), .int .i64 0, .int .i64 0, .bool false, .slice none 0 0, .slice none 0 0, .slice none 0 0, .slice none 0 0] 27) * (orcB o q mb A n c last * (mapHP Try.prog 2 mb g s.iss.length * orcC A n c s))) * (logP q p ((ms ++ [newM id src (last + 1)]).length : Nat) * (disk p (logB (ms ++ [newM id src (last + 1)])) ((logB (ms ++ [newM id src (last + 1)])).length : Int) room * F)))) from by
          exact wr_ok 1 src id (last + 1) GM.out.ok HS.out ZZ.out HE.out)
        have pq := HD.out.cellAt o 0 (v := .pointer (some ⟨q, 0, none⟩)) rfl
        have p0 := HD.out.cellAt b 0 (v := .int .i64 1) rfl
        have p1 := HD.out.cellAt b 1 (v := .int .i64 src) rfl
        have p2 := HD.out.cellAt b 2 (v := .int .i64 0) rfl
        have p3 := HD.out.cellAt b 3 (v := .int .i64 id) rfl
        have p4 := HD.out.cellAt b 4 (v := .int .i64 (last + 1)) rfl
        have p5 := HD.out.cellAt b 5 (v := .int .i64 0) rfl
        have p6 := HD.out.cellAt b 6 (v := .int .i64 0) rfl
        have p7 := HD.out.cellAt b 7 (v := .bool false) rfl
        have p8 := HD.out.cellAt b 8 (v := .slice none 0 0) rfl
        have p9 := HD.out.cellAt b 9 (v := .slice none 0 0) rfl
        have p10 := HD.out.cellAt b 10 (v := .slice none 0 0) rfl
        have p11 := HD.out.cellAt b 11 (v := .slice none 0 0) rfl
        go_upto_region 7 with fail
        refine start_ (n := 7) (S := fun w' => w'.cell? ⟨o, 0, none⟩ = some (.pointer (some ⟨q, 0, none⟩)) ∧ w'.cell? ⟨b, 0, none⟩ = some (.int .i64 1) ∧ w'.cell? ⟨b, 1, none⟩ = some (.int .i64 src) ∧ w'.cell? ⟨b, 2, none⟩ = some (.int .i64 0) ∧ w'.cell? ⟨b, 3, none⟩ = some (.int .i64 id) ∧ w'.cell? ⟨b, 4, none⟩ = some (.int .i64 (last + 1)) ∧ w'.cell? ⟨b, 5, none⟩ = some (.int .i64 0) ∧ w'.cell? ⟨b, 6, none⟩ = some (.int .i64 0) ∧ w'.cell? ⟨b, 7, none⟩ = some (.bool false) ∧ w'.cell? ⟨b, 8, none⟩ = some (.slice none 0 0) ∧ w'.cell? ⟨b, 9, none⟩ = some (.slice none 0 0) ∧ w'.cell? ⟨b, 10, none⟩ = some (.slice none 0 0) ∧ w'.cell? ⟨b, 11, none⟩ = some (.slice none 0 0)) (ds := []) #[false, false, false, false, false, false, false] (by kernel_rfl) rfl rfl ⟨pq, p0, p1, p2, p3, p4, p5, p6, p7, p8, p9, p10, p11⟩ (fun hHeld => ?_)
        refine pure_ (i := 0) (N := some 35) (v := ?_) (a' := ?_) #[true, false, false, false, false, false, false] rfl rfl (by kernel_rfl) (fun _ _ _ h => h) (Or.inl ⟨by rfl, ?_⟩) ?_ ?_
        rotate_left
        · intro w'
          go_simp
          with_reducible rfl
        rotate_left
        · simp only [Act.put, List.setIfInBounds_toArray, List.set_cons_zero, List.set_cons_succ, i64_w, i32_w]
          rfl
        refine pure_ (i := 1) (N := some 36) (v := ?_) (a' := ?_) #[true, true, false, false, false, false, false] rfl rfl (by kernel_rfl) (fun _ _ _ h => h) (Or.inl ⟨by rfl, ?_⟩) ?_ ?_
        rotate_left
        · intro w'
          go_simp
          with_reducible rfl
        rotate_left
        · simp only [Act.put, List.setIfInBounds_toArray, List.set_cons_zero, List.set_cons_succ, i64_w, i32_w]
          rfl
        refine pure_ (i := 2) (N := some 37) (v := ?_) (a' := ?_) #[true, true, true, false, false, false, false] rfl rfl (by kernel_rfl) (fun _ _ _ h => h) (Or.inl ⟨by rfl, ?_⟩) ?_ ?_
        rotate_left
        · intro w'
          go_simp
          with_reducible rfl
        rotate_left
        · simp only [Act.put, List.setIfInBounds_toArray, List.set_cons_zero, List.set_cons_succ, i64_w, i32_w]
          rfl
        refine take_ (i := 3) (N := some 38) (v := ?_) (a' := ?_) #[true, true, true, true, false, false, false] rfl rfl (by kernel_rfl) (fun _ _ _ h => h) (Or.inl ⟨by rfl, ?_⟩) hHeld ?_ ?_
        rotate_left
        · rintro w' ⟨s0, s1, s2, s3, s4, s5, s6, s7, s8, s9, s10, s11, s12⟩
          go_simp
          with_reducible rfl
        rotate_left
        · simp only [Act.put, List.setIfInBounds_toArray, List.set_cons_zero, List.set_cons_succ, i64_w, i32_w]
          rfl
        refine take_ (i := 4) (N := some 39) (v := ?_) (a' := ?_) #[true, true, true, true, true, false, false] rfl rfl (by kernel_rfl) (fun _ _ _ h => h) (Or.inl ⟨by rfl, ?_⟩) hHeld ?_ ?_
        rotate_left
        · rintro w' ⟨s0, s1, s2, s3, s4, s5, s6, s7, s8, s9, s10, s11, s12⟩
          go_simp
          with_reducible rfl
        rotate_left
        · simp only [Act.put, List.setIfInBounds_toArray, List.set_cons_zero, List.set_cons_succ, i64_w, i32_w]
          rfl
        refine one_ (i := 5) (N := some 40) #[true, true, true, true, true, true, false] rfl rfl (by kernel_rfl) (by decide) (fun K hK => ?_)
        refine goes_ Try.func22 (by kernel_rfl) rfl #[.pointer (some ⟨q, 0, none⟩), .agg #[.int .i64 1, .int .i64 src, .int .i64 0, .int .i64 id, .int .i64 (last + 1), .int .i64 0, .int .i64 0, .bool false, .slice none 0 0, .slice none 0 0, .slice none 0 0, .slice none 0 0]] (by rfl) rfl rfl (by simp only [List.map_toArray, List.map_cons, List.map_nil]; rfl) ?_
        with_reducible refine (WR.out).mono ?_
        rintro e w5 ⟨rfl, hq⟩
        refine ⟨_, rfl, ?_⟩
        have HQ := Aside0.mk hq
        have rq := HQ.out.cellAt o 0 (v := .pointer (some ⟨q, 0, none⟩)) rfl
        have r0 := HQ.out.cellAt b 0 (v := .int .i64 1) rfl
        have r1 := HQ.out.cellAt b 1 (v := .int .i64 src) rfl
        have r2 := HQ.out.cellAt b 2 (v := .int .i64 0) rfl
        have r3 := HQ.out.cellAt b 3 (v := .int .i64 id) rfl
        have r4 := HQ.out.cellAt b 4 (v := .int .i64 (last + 1)) rfl
        have r5 := HQ.out.cellAt b 5 (v := .int .i64 0) rfl
        have r6 := HQ.out.cellAt b 6 (v := .int .i64 0) rfl
        have r7 := HQ.out.cellAt b 7 (v := .bool false) rfl
        have r8 := HQ.out.cellAt b 8 (v := .slice none 0 0) rfl
        have r9 := HQ.out.cellAt b 9 (v := .slice none 0 0) rfl
        have r10 := HQ.out.cellAt b 10 (v := .slice none 0 0) rfl
        have r11 := HQ.out.cellAt b 11 (v := .slice none 0 0) rfl
        refine hK.out _ _ ⟨rq, r0, r1, r2, r3, r4, r5, r6, r7, r8, r9, r10, r11⟩ (fun hHeld => ?_)
        clear hK K
        refine norm_ (a' := ?_) ?_ ?_
        rotate_left
        · show Act.put _ (some 40) _ = _
          simp only [Act.put, List.setIfInBounds_toArray, List.set_cons_zero, List.set_cons_succ, i64_w, i32_w]
          rfl
        refine pure_ (i := 6) (N := some 10) (v := ?_) (a' := ?_) #[true, true, true, true, true, true, true] rfl rfl (by kernel_rfl) (fun _ _ _ h => h) (Or.inl ⟨by rfl, ?_⟩) ?_ ?_
        rotate_left
        · intro w'
          go_simp
          with_reducible rfl
        rotate_left
        · simp only [Act.put, List.setIfInBounds_toArray, List.set_cons_zero, List.set_cons_succ, i64_w, i32_w]
          rfl
        refine done_ (by kernel_rfl) ?_
        clear hHeld pq p0 p1 p2 p3 p4 p5 p6 p7 p8 p9 p10 p11 rq r0 r1 r2 r3 r4 r5 r6 r7 r8 r9 r10 r11
        have HK := Aside0.mk (HQ.out.as (Q := (orcB o q mb A n c last * (mapHP Try.prog 2 mb g s.iss.length * (orcC A n c s * (logP q p ((ms ++ [newM id src (last + 1)]).length : Nat) * (disk p (logB (ms ++ [newM id src (last + 1)])) ((logB (ms ++ [newM id src (last + 1)])).length : Int) room * F))))) * blk b (.cells #[.int .i64 1, .int .i64 src, .int .i64 0, .int .i64 id, .int .i64 (last + 1), .int .i64 0, .int .i64 0, .bool false, .slice none 0 0, .slice none 0 0, .slice none 0 0, .slice none 0 0] 27)) (by ac_rfl))
        have z0 := HQ.out.cellAt b 0 (v := .int .i64 1) rfl
        have z1 := HQ.out.cellAt b 1 (v := .int .i64 src) rfl
        have z2 := HQ.out.cellAt b 2 (v := .int .i64 0) rfl
        have z3 := HQ.out.cellAt b 3 (v := .int .i64 id) rfl
        have z4 := HQ.out.cellAt b 4 (v := .int .i64 (last + 1)) rfl
        have z5 := HQ.out.cellAt b 5 (v := .int .i64 0) rfl
        have z6 := HQ.out.cellAt b 6 (v := .int .i64 0) rfl
        have z7 := HQ.out.cellAt b 7 (v := .bool false) rfl
        have z8 := HQ.out.cellAt b 8 (v := .slice none 0 0) rfl
        have z9 := HQ.out.cellAt b 9 (v := .slice none 0 0) rfl
        have z10 := HQ.out.cellAt b 10 (v := .slice none 0 0) rfl
        have z11 := HQ.out.cellAt b 11 (v := .slice none 0 0) rfl
        clear HD HE WR H4
        go_wp2_with fail
        refine (oreplay_run (newM id src (last + 1)) none none none none 0 0 0 0 0 0 0 0 (s := s) ⟨mb, A, n, c, g, MI.out, NN.out, by rw [← EL.out]; exact HQ.out.as (by show _ = orcB o q mb A n c last * (mapHP Try.prog 2 mb g s.iss.length * (orcC A n c s * ((logP q p ((ms ++ [newM id src (last + 1)]).length : Nat) * (disk p (logB (ms ++ [newM id src (last + 1)])) ((logB (ms ++ [newM id src (last + 1)])).length : Int) room * F)) * blk b (.cells #[.int .i64 1, .int .i64 src, .int .i64 0, .int .i64 id, .int .i64 (last + 1), .int .i64 0, .int .i64 0, .bool false, .slice none 0 0, .slice none 0 0, .slice none 0 0, .slice none 0 0] 27)))); ac_rfl)⟩ SO.out SL.out GM.out.ok).mono ?_
        rintro e w6 ⟨rfl, h6⟩
        obtain ⟨mb2, A2, n2, c2, g2, m1, m2, HR⟩ := h6
        have H6 := Aside0.mk HR
        have M1 := Aside0.mk m1
        have M2 := Aside0.mk m2
        have y4 := H6.out.cellAt b 4 (v := .int .i64 (last + 1)) rfl
        clear HR m1 m2 z0 z1 z2 z3 z4 z5 z6 z7 z8 z9 z10 z11
        go_wp2_with fail
        go_ret2
        refine ⟨ms ++ [newM id src (last + 1)], last + 1, 0, rfl, OA, q, ?_⟩
        rw [oopen_snoc, ← EQ.out]
        exact orc_drop ⟨mb2, A2, n2, c2, g2, M1.out, M2.out, H6.out⟩
      · rw [if_neg hz] at OA
        obtain ⟨ev, hev⟩ : ∃ ev, ev = addErr (newM id src (last + 1)) (logB ms).length room := ⟨_, rfl⟩
        have hz2 : ev ≠ 0 := by rw [hev]; exact hz
        have d5 : (ev != 0) = true := by simpa using hz2
        rw [← hev] at OA
        have ZZ := Aside0.mk hz
        have EV := Aside0.mk hev
        clear hz hz2 hev
        go_enter Try.func39, Try.ntmps39
        go_upto_region 7 with (refine Hw.store_row rfl 27 (.tmp 9) (.tmp 34) rfl w.heap.size #[.int .i64 1, .int .i64 src, .int .i64 0, .int .i64 id, .int .i64 (last + 1), .int .i64 0, .int .i64 0, .bool false, .slice none 0 0, .slice none 0 0, .slice none 0 0, .slice none 0 0] rfl rfl HX.out (by kernel_rfl) (by rfl) (by first | kernel_rfl | rfl | simp [Value.oneCell']) ?_; intro w4 H4)
        clear x0 x1 x2 x3 HL d2 d3 wr1 wr2 HX H0
        obtain ⟨b, hb⟩ : ∃ b, b = w.heap.size := ⟨_, rfl⟩
        rw [← hb] at H4
        rw [← hb]
        clear hb
        have HD := Aside0.mk H4.out.drew
        have HE := Aside0.mk (HD.out.as (Q := (blk b (.cells #[.int .i64 1, .int .i64 src, .int .i64 0, .int .i64 id, .int .i64 (last + 1), .int .i64 0, .int .i64 0, .bool false, .slice none 0 0, .slice none 0 0, .slice none 0 0, .slice none 0 0] 27) * (orcB o q mb A n c last * (mapHP Try.prog 2 mb g s.iss.length * orcC A n c s))) * (logP q p (ms.length : Nat) * (disk p (logB ms) ((logB ms).length : Int) room * F))) (by ac_rfl))
        have WR := Aside0.mk (show Calls Try.prog 22 #[.pointer (some ⟨q, 0, none⟩), .agg #[.int .i64 1, .int .i64 src, .int .i64 0, .int .i64 id, .int .i64 (last + 1), .int .i64 0, .int .i64 0, .bool false, .slice none 0 0, .slice none 0 0, .slice none 0 0, .slice none 0 0]] w4.drew (fun e w' => e = .returned (.int .i64 ev) ∧ Hw w0 w' ((blk b (.cells #[.int .i64 1, .int .i64 src, .int .i64 0, .int .i64 id, .int .i64 (last + 1), .int .i64 0, .int .i64 0, .bool false, .slice none 0 0, .slice none 0 0, .slice none 0 0, .slice none 0 0] 27) * (orcB o q mb A n c last * (mapHP Try.prog 2 mb g s.iss.length * orcC A n c s))) * (logP q p (ms.length : Nat) * (disk p (logB ms) ((logB ms).length : Int) room * F)))) from by
          rw [EV.out]
          exact wr_bad 1 src id (last + 1) GM.out.ok HS.out ZZ.out HE.out)
        have pq := HD.out.cellAt o 0 (v := .pointer (some ⟨q, 0, none⟩)) rfl
        have p0 := HD.out.cellAt b 0 (v := .int .i64 1) rfl
        have p1 := HD.out.cellAt b 1 (v := .int .i64 src) rfl
        have p2 := HD.out.cellAt b 2 (v := .int .i64 0) rfl
        have p3 := HD.out.cellAt b 3 (v := .int .i64 id) rfl
        have p4 := HD.out.cellAt b 4 (v := .int .i64 (last + 1)) rfl
        have p5 := HD.out.cellAt b 5 (v := .int .i64 0) rfl
        have p6 := HD.out.cellAt b 6 (v := .int .i64 0) rfl
        have p7 := HD.out.cellAt b 7 (v := .bool false) rfl
        have p8 := HD.out.cellAt b 8 (v := .slice none 0 0) rfl
        have p9 := HD.out.cellAt b 9 (v := .slice none 0 0) rfl
        have p10 := HD.out.cellAt b 10 (v := .slice none 0 0) rfl
        have p11 := HD.out.cellAt b 11 (v := .slice none 0 0) rfl
        go_upto_region 7 with fail
        refine start_ (n := 7) (S := fun w' => w'.cell? ⟨o, 0, none⟩ = some (.pointer (some ⟨q, 0, none⟩)) ∧ w'.cell? ⟨b, 0, none⟩ = some (.int .i64 1) ∧ w'.cell? ⟨b, 1, none⟩ = some (.int .i64 src) ∧ w'.cell? ⟨b, 2, none⟩ = some (.int .i64 0) ∧ w'.cell? ⟨b, 3, none⟩ = some (.int .i64 id) ∧ w'.cell? ⟨b, 4, none⟩ = some (.int .i64 (last + 1)) ∧ w'.cell? ⟨b, 5, none⟩ = some (.int .i64 0) ∧ w'.cell? ⟨b, 6, none⟩ = some (.int .i64 0) ∧ w'.cell? ⟨b, 7, none⟩ = some (.bool false) ∧ w'.cell? ⟨b, 8, none⟩ = some (.slice none 0 0) ∧ w'.cell? ⟨b, 9, none⟩ = some (.slice none 0 0) ∧ w'.cell? ⟨b, 10, none⟩ = some (.slice none 0 0) ∧ w'.cell? ⟨b, 11, none⟩ = some (.slice none 0 0)) (ds := []) #[false, false, false, false, false, false, false] (by kernel_rfl) rfl rfl ⟨pq, p0, p1, p2, p3, p4, p5, p6, p7, p8, p9, p10, p11⟩ (fun hHeld => ?_)
        refine pure_ (i := 0) (N := some 35) (v := ?_) (a' := ?_) #[true, false, false, false, false, false, false] rfl rfl (by kernel_rfl) (fun _ _ _ h => h) (Or.inl ⟨by rfl, ?_⟩) ?_ ?_
        rotate_left
        · intro w'
          go_simp
          with_reducible rfl
        rotate_left
        · simp only [Act.put, List.setIfInBounds_toArray, List.set_cons_zero, List.set_cons_succ, i64_w, i32_w]
          rfl
        refine pure_ (i := 1) (N := some 36) (v := ?_) (a' := ?_) #[true, true, false, false, false, false, false] rfl rfl (by kernel_rfl) (fun _ _ _ h => h) (Or.inl ⟨by rfl, ?_⟩) ?_ ?_
        rotate_left
        · intro w'
          go_simp
          with_reducible rfl
        rotate_left
        · simp only [Act.put, List.setIfInBounds_toArray, List.set_cons_zero, List.set_cons_succ, i64_w, i32_w]
          rfl
        refine pure_ (i := 2) (N := some 37) (v := ?_) (a' := ?_) #[true, true, true, false, false, false, false] rfl rfl (by kernel_rfl) (fun _ _ _ h => h) (Or.inl ⟨by rfl, ?_⟩) ?_ ?_
        rotate_left
        · intro w'
          go_simp
          with_reducible rfl
        rotate_left
        · simp only [Act.put, List.setIfInBounds_toArray, List.set_cons_zero, List.set_cons_succ, i64_w, i32_w]
          rfl
        refine take_ (i := 3) (N := some 38) (v := ?_) (a' := ?_) #[true, true, true, true, false, false, false] rfl rfl (by kernel_rfl) (fun _ _ _ h => h) (Or.inl ⟨by rfl, ?_⟩) hHeld ?_ ?_
        rotate_left
        · rintro w' ⟨s0, s1, s2, s3, s4, s5, s6, s7, s8, s9, s10, s11, s12⟩
          go_simp
          with_reducible rfl
        rotate_left
        · simp only [Act.put, List.setIfInBounds_toArray, List.set_cons_zero, List.set_cons_succ, i64_w, i32_w]
          rfl
        refine take_ (i := 4) (N := some 39) (v := ?_) (a' := ?_) #[true, true, true, true, true, false, false] rfl rfl (by kernel_rfl) (fun _ _ _ h => h) (Or.inl ⟨by rfl, ?_⟩) hHeld ?_ ?_
        rotate_left
        · rintro w' ⟨s0, s1, s2, s3, s4, s5, s6, s7, s8, s9, s10, s11, s12⟩
          go_simp
          with_reducible rfl
        rotate_left
        · simp only [Act.put, List.setIfInBounds_toArray, List.set_cons_zero, List.set_cons_succ, i64_w, i32_w]
          rfl
        refine one_ (i := 5) (N := some 40) #[true, true, true, true, true, true, false] rfl rfl (by kernel_rfl) (by decide) (fun K hK => ?_)
        refine goes_ Try.func22 (by kernel_rfl) rfl #[.pointer (some ⟨q, 0, none⟩), .agg #[.int .i64 1, .int .i64 src, .int .i64 0, .int .i64 id, .int .i64 (last + 1), .int .i64 0, .int .i64 0, .bool false, .slice none 0 0, .slice none 0 0, .slice none 0 0, .slice none 0 0]] (by rfl) rfl rfl (by simp only [List.map_toArray, List.map_cons, List.map_nil]; rfl) ?_
        with_reducible refine (WR.out).mono ?_
        rintro e w5 ⟨rfl, hq⟩
        refine ⟨_, rfl, ?_⟩
        have HQ := Aside0.mk hq
        have rq := HQ.out.cellAt o 0 (v := .pointer (some ⟨q, 0, none⟩)) rfl
        have r0 := HQ.out.cellAt b 0 (v := .int .i64 1) rfl
        have r1 := HQ.out.cellAt b 1 (v := .int .i64 src) rfl
        have r2 := HQ.out.cellAt b 2 (v := .int .i64 0) rfl
        have r3 := HQ.out.cellAt b 3 (v := .int .i64 id) rfl
        have r4 := HQ.out.cellAt b 4 (v := .int .i64 (last + 1)) rfl
        have r5 := HQ.out.cellAt b 5 (v := .int .i64 0) rfl
        have r6 := HQ.out.cellAt b 6 (v := .int .i64 0) rfl
        have r7 := HQ.out.cellAt b 7 (v := .bool false) rfl
        have r8 := HQ.out.cellAt b 8 (v := .slice none 0 0) rfl
        have r9 := HQ.out.cellAt b 9 (v := .slice none 0 0) rfl
        have r10 := HQ.out.cellAt b 10 (v := .slice none 0 0) rfl
        have r11 := HQ.out.cellAt b 11 (v := .slice none 0 0) rfl
        refine hK.out _ _ ⟨rq, r0, r1, r2, r3, r4, r5, r6, r7, r8, r9, r10, r11⟩ (fun hHeld => ?_)
        clear hK K
        refine norm_ (a' := ?_) ?_ ?_
        rotate_left
        · show Act.put _ (some 40) _ = _
          simp only [Act.put, List.setIfInBounds_toArray, List.set_cons_zero, List.set_cons_succ, i64_w, i32_w]
          rfl
        refine pure_ (i := 6) (N := some 10) (v := ?_) (a' := ?_) #[true, true, true, true, true, true, true] rfl rfl (by kernel_rfl) (fun _ _ _ h => h) (Or.inl ⟨by rfl, ?_⟩) ?_ ?_
        rotate_left
        · intro w'
          go_simp
          with_reducible rfl
        rotate_left
        · simp only [Act.put, List.setIfInBounds_toArray, List.set_cons_zero, List.set_cons_succ, i64_w, i32_w]
          rfl
        refine done_ (by kernel_rfl) ?_
        clear hHeld pq p0 p1 p2 p3 p4 p5 p6 p7 p8 p9 p10 p11 rq r0 r1 r2 r3 r4 r5 r6 r7 r8 r9 r10 r11
        have HK := Aside0.mk (HQ.out.as (Q := (orcB o q mb A n c last * (mapHP Try.prog 2 mb g s.iss.length * (orcC A n c s * (logP q p (ms.length : Nat) * (disk p (logB ms) ((logB ms).length : Int) room * F))))) * blk b (.cells #[.int .i64 1, .int .i64 src, .int .i64 0, .int .i64 id, .int .i64 (last + 1), .int .i64 0, .int .i64 0, .bool false, .slice none 0 0, .slice none 0 0, .slice none 0 0, .slice none 0 0] 27)) (by ac_rfl))
        clear HD HE WR H4
        go_wp2_with fail
        go_ret2
        refine ⟨ms, 0, ev, rfl, OA, q, mb, A, n, c, g, by rw [← EQ.out]; exact MI.out, by rw [← EQ.out]; exact NN.out, ?_⟩
        rw [← EQ.out, ← EL.out]
        exact HK.out.left
  · rw [if_neg hv] at HL
    rw [if_pos hv] at OA
    simp only [Option.getD_some] at HL
    obtain ⟨rv, hrv⟩ : ∃ rv, rv = orev s id := ⟨_, rfl⟩
    rw [← hrv] at HL hv OA
    have d2 : (rv != 0) = true := by simpa using hv
    clear hrv hv
    go_enter Try.func39, Try.ntmps39
    go_wp2_with fail
    go_ret2
    exact ⟨ms, rv, 0, rfl, OA, q, mb, A, n, c, g, by rw [← EQ.out]; exact MI.out, by rw [← EQ.out]; exact NN.out, by rw [← EQ.out, ← EL.out]; exact H0.out⟩
end
end Go.Proofs.Ytckdkbjobipniaa
