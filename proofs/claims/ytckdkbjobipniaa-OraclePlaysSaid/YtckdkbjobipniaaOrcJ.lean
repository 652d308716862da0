/- The oracle's Resolve; opened. Printed by wip/gen/orcj.py. -/
import Derived.Test.YtckdkbjobipniaaOrcI
set_option linter.unusedVariables false
set_option linter.unusedSimpArgs false
namespace Go.Proofs.Ytckdkbjobipniaa
open Go.RowKit Go.Maps Go.Proofs.YtckdkbjobipniaaW.PrintWords Go.Proofs.YtckdkbjobipniaaW.PrintLast
section
variable {w0 w : World} {F X : HP} {o q p : Nat} {ms : List Msg} {room : Int}
set_option maxHeartbeats 12800000 in
set_option maxRecDepth 100000 in
theorem oresolve_run (id : Int) (h : OrcOn w0 w F o p ms room) (hs : OrcMs ms room) (hid : i64r id) :
    Calls Try.prog 42 #[.pointer (some ⟨o, 0, none⟩), .int .i64 id] w fun e w' => ∃ ms2 k, e = .returned (.int .i64 k) ∧ Aside0 (osettle ms room id = (ms2, k)) ∧ OrcOn w0 w' F o p ms2 room := by
  obtain ⟨q, mb, A, n, c, g, hmi, hn, H⟩ := h
  obtain ⟨s, hss⟩ : ∃ s, s = oopen ms := ⟨_, rfl⟩
  obtain ⟨last, hlast⟩ : ∃ x, x = olast s := ⟨_, rfl⟩
  rw [← hss] at H hmi hn
  rw [← hlast] at H
  have SO := Aside0.mk (show OrcOk s by rw [hss]; exact oopen_ok ms)
  have LS := Aside0.mk (show 0 ≤ last ∧ last ≤ 9223372036854775807 by rw [hlast, hss]; exact hs.last)
  have SL := Aside0.mk (show s.iss.length ≤ 1000000 by have h1 := oopen_len ms; have h2 := hs.cnt; rw [hss]; omega)
  have EQ := Aside0.mk hss
  have EL := Aside0.mk hlast
  have MI := Aside0.mk hmi
  have NN := Aside0.mk hn
  have HS := Aside0.mk hs
  have H0 := Aside0.mk H
  have x0 := H.cellAt o 0 (v := .pointer (some ⟨q, 0, none⟩)) rfl
  have x1 := H.cellAt o 1 (v := .map (some mb)) rfl
  have x2 := H.cellAt o 2 (v := .slice A n c) rfl
  have x3 := H.cellAt o 3 (v := .int .i64 last) rfl
  have hwf : (Lit.int .i64 id).wf = true := WalkArith.wf_i64 (by unfold i64r at hid; omega)
  have KY := Aside0.mk (keyOf_int_mk (P := Try.prog) Try.underlying2 hwf)
  have HL := map_look (H.at (mapHP Try.prog 2 mb g s.iss.length)) (int_keyed Try.underlying2) Try.underlying93 (Try.zeroValue2 _) KY.out
  rw [MI.out id] at HL
  clear H hmi hn hss hlast hwf hs
  have OA := Aside0.mk (show osettle ms room id = if orev s id = 0 then (ms, 4) else if id ∈ s.done then (ms, 0) else if addErr (resM id) (logB ms).length room = 0 then (ms ++ [resM id], 0) else (ms, addErr (resM id) (logB ms).length room) by
    unfold osettle
    rw [← EQ.out])
  by_cases hv : orev s id = 0
  · rw [if_pos hv] at HL OA
    clear hv
    simp only [Option.getD_none] at HL
    go_enter Try.func42, Try.ntmps42
    go_wp2_with fail
    go_ret
    exact ⟨ms, 4, rfl, OA, q, mb, A, n, c, g, by rw [← EQ.out]; exact MI.out, by rw [← EQ.out]; exact NN.out, by rw [← EQ.out, ← EL.out]; exact H0.out⟩
  · rw [if_neg hv] at HL OA
    have HV := Aside0.mk hv
    simp only [Option.getD_some] at HL
    obtain ⟨rv, hrv⟩ : ∃ rv, rv = orev s id := ⟨_, rfl⟩
    rw [← hrv] at HL hv
    have d2 : (rv == 0) = false := by simpa using hv
    have GM := Aside0.mk (resM_good hid)
    have NB : n ≤ 1000000 := by have h1 := opend_len s; have h2 := NN.out; have h3 := SL.out; omega
    clear hrv hv
    go_enter Try.func42, Try.ntmps42
    go_wp2_with fail
    clear x0 x1 x2 x3 HL d2
    go_loopw [21] (fun i wr => ∃ j : Nat, j ≤ n ∧ i = .int .i64 j ∧ Aside0 (∀ y ∈ (opend s).take j, y.id ≠ id) ∧ Aside0 (Hw w0 wr (orcB o q mb A n c last * (mapHP Try.prog 2 mb g s.iss.length * (orcC A n c s * (logP q p (ms.length : Nat) * (disk p (logB ms) ((logB ms).length : Int) room * F)))))))
      (fun i _ => n - (intOf i).toNat)
    case atStart => exact ⟨0, Nat.zero_le _, rfl, ⟨by simp⟩, H0⟩
    case round =>
      obtain ⟨j, hj, rfl, NO, HW⟩ := hrel
      clear H0
      by_cases hlt : j < n
      · have MS := Aside0.mk (iss_msgs (l := opend s) (HW.out.at (orcC A n c s)) NN.out NB)
        obtain ⟨ad, xh, rfl, hx, XC, XA⟩ := msgs_at MS.out j hlt
        obtain ⟨y, hy, rfl⟩ : ∃ y, (opend s)[j]? = some y ∧ xh = issMH y := by
          have h1 := hx.out
          rw [List.getElem?_map] at h1
          cases h2 : (opend s)[j]? with
          | none => rw [h2] at h1; exact absurd h1 (by simp)
          | some y => rw [h2] at h1; exact ⟨y, rfl, by injection h1 with h1; exact h1.symm⟩
        have HY := Aside0.mk hy
        have x0 : wr.cell? (ad.add (j * 12)) = some (.int .i64 1) := XA.out.c0
        have x1 : wr.cell? ⟨(ad.add (j * 12)).block, (ad.add (j * 12)).off + 1, none⟩ = some (.int .i64 y.src) := XA.out.c1
        have x2 : wr.cell? ⟨(ad.add (j * 12)).block, (ad.add (j * 12)).off + 2, none⟩ = some (.int .i64 0) := XA.out.c2
        have x3 : wr.cell? ⟨(ad.add (j * 12)).block, (ad.add (j * 12)).off + 3, none⟩ = some (.int .i64 y.id) := XA.out.c3
        have x4 : wr.cell? ⟨(ad.add (j * 12)).block, (ad.add (j * 12)).off + 4, none⟩ = some (.int .i64 y.rev) := XA.out.c4
        have x5 : wr.cell? ⟨(ad.add (j * 12)).block, (ad.add (j * 12)).off + 5, none⟩ = some (.int .i64 0) := XA.out.c5
        have x6 : wr.cell? ⟨(ad.add (j * 12)).block, (ad.add (j * 12)).off + 6, none⟩ = some (.int .i64 0) := XA.out.c6
        have x7 : wr.cell? ⟨(ad.add (j * 12)).block, (ad.add (j * 12)).off + 7, none⟩ = some (.bool false) := XA.out.c7
        have x8 : wr.cell? ⟨(ad.add (j * 12)).block, (ad.add (j * 12)).off + 8, none⟩ = some (.slice none 0 0) := XA.out.c8
        have x9 : wr.cell? ⟨(ad.add (j * 12)).block, (ad.add (j * 12)).off + 9, none⟩ = some (.slice none 0 0) := XA.out.c9
        have x10 : wr.cell? ⟨(ad.add (j * 12)).block, (ad.add (j * 12)).off + 10, none⟩ = some (.slice none 0 0) := XA.out.c10
        have x11 : wr.cell? ⟨(ad.add (j * 12)).block, (ad.add (j * 12)).off + 11, none⟩ = some (.slice none 0 0) := XA.out.c11
        clear hx hy XC XA
        have HX := Aside0.mk (HW.out.alloc (.cells #[.int .i64 0, .int .i64 0, .int .i64 0, .int .i64 0, .int .i64 0, .int .i64 0, .int .i64 0, .bool false, .slice none 0 0, .slice none 0 0, .slice none 0 0, .slice none 0 0] 27))
        clear MS HW
        by_cases he : y.id = id
        · have d5 : (y.id == id) = true := by simpa using he
          obtain ⟨_, hnd⟩ := (opend_has SO.out).1 ⟨y, List.mem_of_getElem? HY.out, he⟩
          rw [if_neg hnd] at OA
          clear he hnd HY NO
          by_cases hz : addErr (resM id) (logB ms).length room = 0
          · rw [if_pos hz] at OA
            have ZZ := Aside0.mk hz
            clear hz
            go_upto_region 8 with (first | (refine Hw.store_row rfl 27 (.tmp 6) (.tmp 24) rfl wr.heap.size #[.int .i64 1, .int .i64 y.src, .int .i64 0, .int .i64 y.id, .int .i64 y.rev, .int .i64 0, .int .i64 0, .bool false, .slice none 0 0, .slice none 0 0, .slice none 0 0, .slice none 0 0] rfl rfl HX.out (by kernel_rfl) (by rfl) (by first | kernel_rfl | rfl | simp [Value.oneCell']) ?_; intro w3 H3; have v3 := H3.out.cellAt wr.heap.size 3 (v := .int .i64 y.id) rfl; have HX2 := Aside0.mk (H3.out.alloc (.cells #[.int .i64 0, .int .i64 0, .int .i64 0, .int .i64 0, .int .i64 0, .int .i64 0, .int .i64 0, .bool false, .slice none 0 0, .slice none 0 0, .slice none 0 0, .slice none 0 0] 27))) | (refine Hw.store_row rfl 27 (.tmp 7) (.tmp 30) rfl w3.heap.size #[.int .i64 2, .int .i64 0, .int .i64 0, .int .i64 id, .int .i64 0, .int .i64 0, .int .i64 0, .bool false, .slice none 0 0, .slice none 0 0, .slice none 0 0, .slice none 0 0] rfl rfl HX2.out (by kernel_rfl) (by rfl) (by first | kernel_rfl | rfl | simp [Value.oneCell']) ?_; intro w4 H4'))
            obtain ⟨b, hb⟩ : ∃ b, b = w3.heap.size := ⟨_, rfl⟩
            rw [← hb] at H4'
            rw [← hb]
            clear hb x0 x1 x2 x3 x4 x5 x6 x7 x8 x9 x10 x11 v3 HX HX2
            have H4 := Aside0.mk (H4'.out.dropB wr.heap.size)
            clear H4'
            have x0 := H4.out.cellAt o 0 (v := .pointer (some ⟨q, 0, none⟩)) rfl
            have HD := Aside0.mk H4.out.drew
            have HE := Aside0.mk (HD.out.as (Q := (blk b (.cells #[.int .i64 2, .int .i64 0, .int .i64 0, .int .i64 id, .int .i64 0, .int .i64 0, .int .i64 0, .bool false, .slice none 0 0, .slice none 0 0, .slice none 0 0, .slice none 0 0] 27) * (orcB o q mb (some ad) n c last * (mapHP Try.prog 2 mb g s.iss.length * orcC (some ad) n c s))) * (logP q p (ms.length : Nat) * (disk p (logB ms) ((logB ms).length : Int) room * F))) (by ac_rfl))
            have WR := Aside0.mk (show Calls Try.prog 22 #[.pointer (some ⟨q, 0, none⟩), .agg #[.int .i64 2, .int .i64 0, .int .i64 0, .int .i64 id, .int .i64 0, .int .i64 0, .int .i64 0, .bool false, .slice none 0 0, .slice none 0 0, .slice none 0 0, .slice none 0 0]] w4.drew (fun e w' => e = .returned (.int .i64 0) ∧ Hw w0 w' ((blk b (.cells #[.int .i64 2, .int .i64 0, .int .i64 0, .int .i64 id, .int .i64 0, .int .i64 0, .int .i64 0, .bool false, .slice none 0 0, .slice none 0 0, .slice none 0 0, .slice none 0 0] 27) * (orcB o q mb (some ad) n c last * (mapHP Try.prog 2 mb g s.iss.length * orcC (some ad) n c s))) * (logP q p ((ms ++ [resM id]).length : Nat) * (disk p (logB (ms ++ [resM id])) ((logB (ms ++ [resM id])).length : Int) room * F)))) from by
              exact wr_ok 2 0 id 0 GM.out.ok HS.out ZZ.out HE.out)
            have pq := HD.out.cellAt o 0 (v := .pointer (some ⟨q, 0, none⟩)) rfl
            have p0 := HD.out.cellAt b 0 (v := .int .i64 2) rfl
            have p1 := HD.out.cellAt b 1 (v := .int .i64 0) rfl
            have p2 := HD.out.cellAt b 2 (v := .int .i64 0) rfl
            have p3 := HD.out.cellAt b 3 (v := .int .i64 id) rfl
            have p4 := HD.out.cellAt b 4 (v := .int .i64 0) rfl
            have p5 := HD.out.cellAt b 5 (v := .int .i64 0) rfl
            have p6 := HD.out.cellAt b 6 (v := .int .i64 0) rfl
            have p7 := HD.out.cellAt b 7 (v := .bool false) rfl
            have p8 := HD.out.cellAt b 8 (v := .slice none 0 0) rfl
            have p9 := HD.out.cellAt b 9 (v := .slice none 0 0) rfl
            have p10 := HD.out.cellAt b 10 (v := .slice none 0 0) rfl
            have p11 := HD.out.cellAt b 11 (v := .slice none 0 0) rfl
            go_upto_region 8 with fail
            refine start_ (n := 7) (S := fun w' => w'.cell? ⟨o, 0, none⟩ = some (.pointer (some ⟨q, 0, none⟩)) ∧ w'.cell? ⟨b, 0, none⟩ = some (.int .i64 2) ∧ w'.cell? ⟨b, 1, none⟩ = some (.int .i64 0) ∧ w'.cell? ⟨b, 2, none⟩ = some (.int .i64 0) ∧ w'.cell? ⟨b, 3, none⟩ = some (.int .i64 id) ∧ w'.cell? ⟨b, 4, none⟩ = some (.int .i64 0) ∧ w'.cell? ⟨b, 5, none⟩ = some (.int .i64 0) ∧ w'.cell? ⟨b, 6, none⟩ = some (.int .i64 0) ∧ w'.cell? ⟨b, 7, none⟩ = some (.bool false) ∧ w'.cell? ⟨b, 8, none⟩ = some (.slice none 0 0) ∧ w'.cell? ⟨b, 9, none⟩ = some (.slice none 0 0) ∧ w'.cell? ⟨b, 10, none⟩ = some (.slice none 0 0) ∧ w'.cell? ⟨b, 11, none⟩ = some (.slice none 0 0)) (ds := []) #[false, false, false, false, false, false, false] (by kernel_rfl) rfl rfl ⟨pq, p0, p1, p2, p3, p4, p5, p6, p7, p8, p9, p10, p11⟩ (fun hHeld => ?_)
            refine pure_ (i := 0) (N := some 31) (v := ?_) (a' := ?_) #[true, false, false, false, false, false, false] rfl rfl (by kernel_rfl) (fun _ _ _ h => h) (Or.inl ⟨by rfl, ?_⟩) ?_ ?_
            rotate_left
            · intro w'
              go_simp
              with_reducible rfl
            rotate_left
            · simp only [Act.put, List.setIfInBounds_toArray, List.set_cons_zero, List.set_cons_succ, i64_w, i32_w]
              rfl
            refine pure_ (i := 1) (N := some 32) (v := ?_) (a' := ?_) #[true, true, false, false, false, false, false] rfl rfl (by kernel_rfl) (fun _ _ _ h => h) (Or.inl ⟨by rfl, ?_⟩) ?_ ?_
            rotate_left
            · intro w'
              go_simp
              with_reducible rfl
            rotate_left
            · simp only [Act.put, List.setIfInBounds_toArray, List.set_cons_zero, List.set_cons_succ, i64_w, i32_w]
              rfl
            refine pure_ (i := 2) (N := some 33) (v := ?_) (a' := ?_) #[true, true, true, false, false, false, false] rfl rfl (by kernel_rfl) (fun _ _ _ h => h) (Or.inl ⟨by rfl, ?_⟩) ?_ ?_
            rotate_left
            · intro w'
              go_simp
              with_reducible rfl
            rotate_left
            · simp only [Act.put, List.setIfInBounds_toArray, List.set_cons_zero, List.set_cons_succ, i64_w, i32_w]
              rfl
            refine take_ (i := 3) (N := some 34) (v := ?_) (a' := ?_) #[true, true, true, true, false, false, false] rfl rfl (by kernel_rfl) (fun _ _ _ h => h) (Or.inl ⟨by rfl, ?_⟩) hHeld ?_ ?_
            rotate_left
            · rintro w' ⟨s0, s1, s2, s3, s4, s5, s6, s7, s8, s9, s10, s11, s12⟩
              go_simp
              with_reducible rfl
            rotate_left
            · simp only [Act.put, List.setIfInBounds_toArray, List.set_cons_zero, List.set_cons_succ, i64_w, i32_w]
              rfl
            refine take_ (i := 4) (N := some 35) (v := ?_) (a' := ?_) #[true, true, true, true, true, false, false] rfl rfl (by kernel_rfl) (fun _ _ _ h => h) (Or.inl ⟨by rfl, ?_⟩) hHeld ?_ ?_
            rotate_left
            · rintro w' ⟨s0, s1, s2, s3, s4, s5, s6, s7, s8, s9, s10, s11, s12⟩
              go_simp
              with_reducible rfl
            rotate_left
            · simp only [Act.put, List.setIfInBounds_toArray, List.set_cons_zero, List.set_cons_succ, i64_w, i32_w]
              rfl
            refine one_ (i := 5) (N := some 36) #[true, true, true, true, true, true, false] rfl rfl (by kernel_rfl) (by decide) (fun K hK => ?_)
            refine goes_ Try.func22 (by kernel_rfl) rfl #[.pointer (some ⟨q, 0, none⟩), .agg #[.int .i64 2, .int .i64 0, .int .i64 0, .int .i64 id, .int .i64 0, .int .i64 0, .int .i64 0, .bool false, .slice none 0 0, .slice none 0 0, .slice none 0 0, .slice none 0 0]] (by rfl) rfl rfl (by simp only [List.map_toArray, List.map_cons, List.map_nil]; rfl) ?_
            with_reducible refine (WR.out).mono ?_
            rintro e w5 ⟨rfl, hq⟩
            refine ⟨_, rfl, ?_⟩
            have HQ := Aside0.mk hq
            have rq := HQ.out.cellAt o 0 (v := .pointer (some ⟨q, 0, none⟩)) rfl
            have r0 := HQ.out.cellAt b 0 (v := .int .i64 2) rfl
            have r1 := HQ.out.cellAt b 1 (v := .int .i64 0) rfl
            have r2 := HQ.out.cellAt b 2 (v := .int .i64 0) rfl
            have r3 := HQ.out.cellAt b 3 (v := .int .i64 id) rfl
            have r4 := HQ.out.cellAt b 4 (v := .int .i64 0) rfl
            have r5 := HQ.out.cellAt b 5 (v := .int .i64 0) rfl
            have r6 := HQ.out.cellAt b 6 (v := .int .i64 0) rfl
            have r7 := HQ.out.cellAt b 7 (v := .bool false) rfl
            have r8 := HQ.out.cellAt b 8 (v := .slice none 0 0) rfl
            have r9 := HQ.out.cellAt b 9 (v := .slice none 0 0) rfl
            have r10 := HQ.out.cellAt b 10 (v := .slice none 0 0) rfl
            have r11 := HQ.out.cellAt b 11 (v := .slice none 0 0) rfl
            refine hK.out _ _ ⟨rq, r0, r1, r2, r3, r4, r5, r6, r7, r8, r9, r10, r11⟩ (fun hHeld => ?_)
            clear hK K
            refine norm_ (a' := ?_) ?_ ?_
            rotate_left
            · show Act.put _ (some 36) _ = _
              simp only [Act.put, List.setIfInBounds_toArray, List.set_cons_zero, List.set_cons_succ, i64_w, i32_w]
              rfl
            refine pure_ (i := 6) (N := some 8) (v := ?_) (a' := ?_) #[true, true, true, true, true, true, true] rfl rfl (by kernel_rfl) (fun _ _ _ h => h) (Or.inl ⟨by rfl, ?_⟩) ?_ ?_
            rotate_left
            · intro w'
              go_simp
              with_reducible rfl
            rotate_left
            · simp only [Act.put, List.setIfInBounds_toArray, List.set_cons_zero, List.set_cons_succ, i64_w, i32_w]
              rfl
            refine done_ (by kernel_rfl) ?_
            clear hHeld pq p0 p1 p2 p3 p4 p5 p6 p7 p8 p9 p10 p11 rq r0 r1 r2 r3 r4 r5 r6 r7 r8 r9 r10 r11
            have HK := Aside0.mk (HQ.out.as (Q := (orcB o q mb (some ad) n c last * (mapHP Try.prog 2 mb g s.iss.length * (orcC (some ad) n c s * (logP q p ((ms ++ [resM id]).length : Nat) * (disk p (logB (ms ++ [resM id])) ((logB (ms ++ [resM id])).length : Int) room * F))))) * blk b (.cells #[.int .i64 2, .int .i64 0, .int .i64 0, .int .i64 id, .int .i64 0, .int .i64 0, .int .i64 0, .bool false, .slice none 0 0, .slice none 0 0, .slice none 0 0, .slice none 0 0] 27)) (by ac_rfl))
            have z0 := HQ.out.cellAt b 0 (v := .int .i64 2) rfl
            have z1 := HQ.out.cellAt b 1 (v := .int .i64 0) rfl
            have z2 := HQ.out.cellAt b 2 (v := .int .i64 0) rfl
            have z3 := HQ.out.cellAt b 3 (v := .int .i64 id) rfl
            have z4 := HQ.out.cellAt b 4 (v := .int .i64 0) rfl
            have z5 := HQ.out.cellAt b 5 (v := .int .i64 0) rfl
            have z6 := HQ.out.cellAt b 6 (v := .int .i64 0) rfl
            have z7 := HQ.out.cellAt b 7 (v := .bool false) rfl
            have z8 := HQ.out.cellAt b 8 (v := .slice none 0 0) rfl
            have z9 := HQ.out.cellAt b 9 (v := .slice none 0 0) rfl
            have z10 := HQ.out.cellAt b 10 (v := .slice none 0 0) rfl
            have z11 := HQ.out.cellAt b 11 (v := .slice none 0 0) rfl
            clear HD HE WR H4 H3 x0
            go_wp2_with fail
            refine (oreplay_run (resM id) none none none none 0 0 0 0 0 0 0 0 (s := s) ⟨mb, some ad, n, c, g, MI.out, NN.out, by rw [← EL.out]; exact HQ.out.as (by show _ = orcB o q mb (some ad) n c last * (mapHP Try.prog 2 mb g s.iss.length * (orcC (some ad) n c s * ((logP q p ((ms ++ [resM id]).length : Nat) * (disk p (logB (ms ++ [resM id])) ((logB (ms ++ [resM id])).length : Int) room * F)) * blk b (.cells #[.int .i64 2, .int .i64 0, .int .i64 0, .int .i64 id, .int .i64 0, .int .i64 0, .int .i64 0, .bool false, .slice none 0 0, .slice none 0 0, .slice none 0 0, .slice none 0 0] 27)))); ac_rfl)⟩ SO.out SL.out GM.out.ok).mono ?_
            rintro e w6 ⟨rfl, h6⟩
            have H6 := Aside0.mk h6
            clear h6 z0 z1 z2 z3 z4 z5 z6 z7 z8 z9 z10 z11
            go_wp2_with fail
            go_ret
            refine ⟨ms ++ [resM id], 0, rfl, OA, q, ?_⟩
            rw [oopen_snoc, ← EQ.out]
            exact orc_drop H6.out
          · rw [if_neg hz] at OA
            obtain ⟨ev, hev⟩ : ∃ ev, ev = addErr (resM id) (logB ms).length room := ⟨_, rfl⟩
            have hz2 : ev ≠ 0 := by rw [hev]; exact hz
            have d6 : (ev != 0) = true := by simpa using hz2
            rw [← hev] at OA
            have ZZ := Aside0.mk hz
            have EV := Aside0.mk hev
            clear hz hz2 hev
            go_upto_region 8 with (first | (refine Hw.store_row rfl 27 (.tmp 6) (.tmp 24) rfl wr.heap.size #[.int .i64 1, .int .i64 y.src, .int .i64 0, .int .i64 y.id, .int .i64 y.rev, .int .i64 0, .int .i64 0, .bool false, .slice none 0 0, .slice none 0 0, .slice none 0 0, .slice none 0 0] rfl rfl HX.out (by kernel_rfl) (by rfl) (by first | kernel_rfl | rfl | simp [Value.oneCell']) ?_; intro w3 H3; have v3 := H3.out.cellAt wr.heap.size 3 (v := .int .i64 y.id) rfl; have HX2 := Aside0.mk (H3.out.alloc (.cells #[.int .i64 0, .int .i64 0, .int .i64 0, .int .i64 0, .int .i64 0, .int .i64 0, .int .i64 0, .bool false, .slice none 0 0, .slice none 0 0, .slice none 0 0, .slice none 0 0] 27))) | (refine Hw.store_row rfl 27 (.tmp 7) (.tmp 30) rfl w3.heap.size #[.int .i64 2, .int .i64 0, .int .i64 0, .int .i64 id, .int .i64 0, .int .i64 0, .int .i64 0, .bool false, .slice none 0 0, .slice none 0 0, .slice none 0 0, .slice none 0 0] rfl rfl HX2.out (by kernel_rfl) (by rfl) (by first | kernel_rfl | rfl | simp [Value.oneCell']) ?_; intro w4 H4'))
            obtain ⟨b, hb⟩ : ∃ b, b = w3.heap.size := ⟨_, rfl⟩
            rw [← hb] at H4'
            rw [← hb]
            clear hb x0 x1 x2 x3 x4 x5 x6 x7 x8 x9 x10 x11 v3 HX HX2
            have H4 := Aside0.mk (H4'.out.dropB wr.heap.size)
            clear H4'
            have x0 := H4.out.cellAt o 0 (v := .pointer (some ⟨q, 0, none⟩)) rfl
            have HD := Aside0.mk H4.out.drew
            have HE := Aside0.mk (HD.out.as (Q := (blk b (.cells #[.int .i64 2, .int .i64 0, .int .i64 0, .int .i64 id, .int .i64 0, .int .i64 0, .int .i64 0, .bool false, .slice none 0 0, .slice none 0 0, .slice none 0 0, .slice none 0 0] 27) * (orcB o q mb (some ad) n c last * (mapHP Try.prog 2 mb g s.iss.length * orcC (some ad) n c s))) * (logP q p (ms.length : Nat) * (disk p (logB ms) ((logB ms).length : Int) room * F))) (by ac_rfl))
            have WR := Aside0.mk (show Calls Try.prog 22 #[.pointer (some ⟨q, 0, none⟩), .agg #[.int .i64 2, .int .i64 0, .int .i64 0, .int .i64 id, .int .i64 0, .int .i64 0, .int .i64 0, .bool false, .slice none 0 0, .slice none 0 0, .slice none 0 0, .slice none 0 0]] w4.drew (fun e w' => e = .returned (.int .i64 ev) ∧ Hw w0 w' ((blk b (.cells #[.int .i64 2, .int .i64 0, .int .i64 0, .int .i64 id, .int .i64 0, .int .i64 0, .int .i64 0, .bool false, .slice none 0 0, .slice none 0 0, .slice none 0 0, .slice none 0 0] 27) * (orcB o q mb (some ad) n c last * (mapHP Try.prog 2 mb g s.iss.length * orcC (some ad) n c s))) * (logP q p (ms.length : Nat) * (disk p (logB ms) ((logB ms).length : Int) room * F)))) from by
              rw [EV.out]
              exact wr_bad 2 0 id 0 GM.out.ok HS.out ZZ.out HE.out)
            have pq := HD.out.cellAt o 0 (v := .pointer (some ⟨q, 0, none⟩)) rfl
            have p0 := HD.out.cellAt b 0 (v := .int .i64 2) rfl
            have p1 := HD.out.cellAt b 1 (v := .int .i64 0) rfl
            have p2 := HD.out.cellAt b 2 (v := .int .i64 0) rfl
            have p3 := HD.out.cellAt b 3 (v := .int .i64 id) rfl
            have p4 := HD.out.cellAt b 4 (v := .int .i64 0) rfl
            have p5 := HD.out.cellAt b 5 (v := .int .i64 0) rfl
            have p6 := HD.out.cellAt b 6 (v := .int .i64 0) rfl
            have p7 := HD.out.cellAt b 7 (v := .bool false) rfl
            have p8 := HD.out.cellAt b 8 (v := .slice none 0 0) rfl
            have p9 := HD.out.cellAt b 9 (v := .slice none 0 0) rfl
            have p10 := HD.out.cellAt b 10 (v := .slice none 0 0) rfl
            have p11 := HD.out.cellAt b 11 (v := .slice none 0 0) rfl
            go_upto_region 8 with fail
            refine start_ (n := 7) (S := fun w' => w'.cell? ⟨o, 0, none⟩ = some (.pointer (some ⟨q, 0, none⟩)) ∧ w'.cell? ⟨b, 0, none⟩ = some (.int .i64 2) ∧ w'.cell? ⟨b, 1, none⟩ = some (.int .i64 0) ∧ w'.cell? ⟨b, 2, none⟩ = some (.int .i64 0) ∧ w'.cell? ⟨b, 3, none⟩ = some (.int .i64 id) ∧ w'.cell? ⟨b, 4, none⟩ = some (.int .i64 0) ∧ w'.cell? ⟨b, 5, none⟩ = some (.int .i64 0) ∧ w'.cell? ⟨b, 6, none⟩ = some (.int .i64 0) ∧ w'.cell? ⟨b, 7, none⟩ = some (.bool false) ∧ w'.cell? ⟨b, 8, none⟩ = some (.slice none 0 0) ∧ w'.cell? ⟨b, 9, none⟩ = some (.slice none 0 0) ∧ w'.cell? ⟨b, 10, none⟩ = some (.slice none 0 0) ∧ w'.cell? ⟨b, 11, none⟩ = some (.slice none 0 0)) (ds := []) #[false, false, false, false, false, false, false] (by kernel_rfl) rfl rfl ⟨pq, p0, p1, p2, p3, p4, p5, p6, p7, p8, p9, p10, p11⟩ (fun hHeld => ?_)
            refine pure_ (i := 0) (N := some 31) (v := ?_) (a' := ?_) #[true, false, false, false, false, false, false] rfl rfl (by kernel_rfl) (fun _ _ _ h => h) (Or.inl ⟨by rfl, ?_⟩) ?_ ?_
            rotate_left
            · intro w'
              go_simp
              with_reducible rfl
            rotate_left
            · simp only [Act.put, List.setIfInBounds_toArray, List.set_cons_zero, List.set_cons_succ, i64_w, i32_w]
              rfl
            refine pure_ (i := 1) (N := some 32) (v := ?_) (a' := ?_) #[true, true, false, false, false, false, false] rfl rfl (by kernel_rfl) (fun _ _ _ h => h) (Or.inl ⟨by rfl, ?_⟩) ?_ ?_
            rotate_left
            · intro w'
              go_simp
              with_reducible rfl
            rotate_left
            · simp only [Act.put, List.setIfInBounds_toArray, List.set_cons_zero, List.set_cons_succ, i64_w, i32_w]
              rfl
            refine pure_ (i := 2) (N := some 33) (v := ?_) (a' := ?_) #[true, true, true, false, false, false, false] rfl rfl (by kernel_rfl) (fun _ _ _ h => h) (Or.inl ⟨by rfl, ?_⟩) ?_ ?_
            rotate_left
            · intro w'
              go_simp
              with_reducible rfl
            rotate_left
            · simp only [Act.put, List.setIfInBounds_toArray, List.set_cons_zero, List.set_cons_succ, i64_w, i32_w]
              rfl
            refine take_ (i := 3) (N := some 34) (v := ?_) (a' := ?_) #[true, true, true, true, false, false, false] rfl rfl (by kernel_rfl) (fun _ _ _ h => h) (Or.inl ⟨by rfl, ?_⟩) hHeld ?_ ?_
            rotate_left
            · rintro w' ⟨s0, s1, s2, s3, s4, s5, s6, s7, s8, s9, s10, s11, s12⟩
              go_simp
              with_reducible rfl
            rotate_left
            · simp only [Act.put, List.setIfInBounds_toArray, List.set_cons_zero, List.set_cons_succ, i64_w, i32_w]
              rfl
            refine take_ (i := 4) (N := some 35) (v := ?_) (a' := ?_) #[true, true, true, true, true, false, false] rfl rfl (by kernel_rfl) (fun _ _ _ h => h) (Or.inl ⟨by rfl, ?_⟩) hHeld ?_ ?_
            rotate_left
            · rintro w' ⟨s0, s1, s2, s3, s4, s5, s6, s7, s8, s9, s10, s11, s12⟩
              go_simp
              with_reducible rfl
            rotate_left
            · simp only [Act.put, List.setIfInBounds_toArray, List.set_cons_zero, List.set_cons_succ, i64_w, i32_w]
              rfl
            refine one_ (i := 5) (N := some 36) #[true, true, true, true, true, true, false] rfl rfl (by kernel_rfl) (by decide) (fun K hK => ?_)
            refine goes_ Try.func22 (by kernel_rfl) rfl #[.pointer (some ⟨q, 0, none⟩), .agg #[.int .i64 2, .int .i64 0, .int .i64 0, .int .i64 id, .int .i64 0, .int .i64 0, .int .i64 0, .bool false, .slice none 0 0, .slice none 0 0, .slice none 0 0, .slice none 0 0]] (by rfl) rfl rfl (by simp only [List.map_toArray, List.map_cons, List.map_nil]; rfl) ?_
            with_reducible refine (WR.out).mono ?_
            rintro e w5 ⟨rfl, hq⟩
            refine ⟨_, rfl, ?_⟩
            have HQ := Aside0.mk hq
            have rq := HQ.out.cellAt o 0 (v := .pointer (some ⟨q, 0, none⟩)) rfl
            have r0 := HQ.out.cellAt b 0 (v := .int .i64 2) rfl
            have r1 := HQ.out.cellAt b 1 (v := .int .i64 0) rfl
            have r2 := HQ.out.cellAt b 2 (v := .int .i64 0) rfl
            have r3 := HQ.out.cellAt b 3 (v := .int .i64 id) rfl
            have r4 := HQ.out.cellAt b 4 (v := .int .i64 0) rfl
            have r5 := HQ.out.cellAt b 5 (v := .int .i64 0) rfl
            have r6 := HQ.out.cellAt b 6 (v := .int .i64 0) rfl
            have r7 := HQ.out.cellAt b 7 (v := .bool false) rfl
            have r8 := HQ.out.cellAt b 8 (v := .slice none 0 0) rfl
            have r9 := HQ.out.cellAt b 9 (v := .slice none 0 0) rfl
            have r10 := HQ.out.cellAt b 10 (v := .slice none 0 0) rfl
            have r11 := HQ.out.cellAt b 11 (v := .slice none 0 0) rfl
            refine hK.out _ _ ⟨rq, r0, r1, r2, r3, r4, r5, r6, r7, r8, r9, r10, r11⟩ (fun hHeld => ?_)
            clear hK K
            refine norm_ (a' := ?_) ?_ ?_
            rotate_left
            · show Act.put _ (some 36) _ = _
              simp only [Act.put, List.setIfInBounds_toArray, List.set_cons_zero, List.set_cons_succ, i64_w, i32_w]
              rfl
            refine pure_ (i := 6) (N := some 8) (v := ?_) (a' := ?_) #[true, true, true, true, true, true, true] rfl rfl (by kernel_rfl) (fun _ _ _ h => h) (Or.inl ⟨by rfl, ?_⟩) ?_ ?_
            rotate_left
            · intro w'
              go_simp
              with_reducible rfl
            rotate_left
            · simp only [Act.put, List.setIfInBounds_toArray, List.set_cons_zero, List.set_cons_succ, i64_w, i32_w]
              rfl
            refine done_ (by kernel_rfl) ?_
            clear hHeld pq p0 p1 p2 p3 p4 p5 p6 p7 p8 p9 p10 p11 rq r0 r1 r2 r3 r4 r5 r6 r7 r8 r9 r10 r11
            have HK := Aside0.mk (HQ.out.as (Q := (orcB o q mb (some ad) n c last * (mapHP Try.prog 2 mb g s.iss.length * (orcC (some ad) n c s * (logP q p (ms.length : Nat) * (disk p (logB ms) ((logB ms).length : Int) room * F))))) * blk b (.cells #[.int .i64 2, .int .i64 0, .int .i64 0, .int .i64 id, .int .i64 0, .int .i64 0, .int .i64 0, .bool false, .slice none 0 0, .slice none 0 0, .slice none 0 0, .slice none 0 0] 27)) (by ac_rfl))
            clear HD HE WR H4 H3 x0
            go_wp2_with fail
            go_ret
            refine ⟨ms, ev, rfl, OA, q, mb, some ad, n, c, g, by rw [← EQ.out]; exact MI.out, by rw [← EQ.out]; exact NN.out, ?_⟩
            rw [← EQ.out, ← EL.out]
            exact HK.out.left
        · have d5 : (y.id == id) = false := by simpa using he
          have NO2 := Aside0.mk (show ∀ z ∈ (opend s).take (j + 1), z.id ≠ id by
            rw [take_snoc_of HY.out]
            intro z hz
            rcases List.mem_append.1 hz with hz | hz
            · exact NO.out z hz
            · obtain rfl : z = y := by simpa using hz
              exact he)
          clear he HY
          go_wp2_with (refine Hw.store_row rfl 27 (.tmp 6) (.tmp 24) rfl wr.heap.size #[.int .i64 1, .int .i64 y.src, .int .i64 0, .int .i64 y.id, .int .i64 y.rev, .int .i64 0, .int .i64 0, .bool false, .slice none 0 0, .slice none 0 0, .slice none 0 0, .slice none 0 0] rfl rfl HX.out (by kernel_rfl) (by rfl) (by first | kernel_rfl | rfl | simp [Value.oneCell']) ?_; intro w3 H3; have v3 := H3.out.cellAt wr.heap.size 3 (v := .int .i64 y.id) rfl; have HX2 := Aside0.mk (H3.out.alloc (.cells #[.int .i64 0, .int .i64 0, .int .i64 0, .int .i64 0, .int .i64 0, .int .i64 0, .int .i64 0, .bool false, .slice none 0 0, .slice none 0 0, .slice none 0 0, .slice none 0 0] 27)))
          go_roundw
          case rel => exact ⟨j + 1, by omega, by go_num, NO2, ⟨H3.out.right⟩⟩
          case measure => simp [intOf]; omega
      · have hjn : j = n := by omega
        have DN : id ∈ s.done := Classical.byContradiction fun hh => by
          obtain ⟨x, hx, e⟩ := (opend_has SO.out).2 ⟨HV.out, hh⟩
          refine NO.out x ?_ e
          rw [List.take_of_length_le (by rw [← NN.out, hjn]; exact Nat.le_refl _)]
          exact hx
        rw [if_pos DN] at OA
        clear DN
        subst hjn
        go_wp2_with fail
        go_ret
        refine ⟨ms, 0, rfl, OA, q, mb, A, j, c, g, by rw [← EQ.out]; exact MI.out, by rw [← EQ.out]; exact NN.out, ?_⟩
        rw [← EQ.out, ← EL.out]
        exact HW.out
set_option maxHeartbeats 12800000 in
set_option maxRecDepth 100000 in
theorem oopened_run {dur : Int} (h : Hw w0 w (disk p (logB ms) dur room * F)) (hs : OrcMs ms room) :
    Calls Try.prog 37 #[.pointer (some ⟨p, 0, none⟩)] w fun e w' => ∃ o, e = .returned (.pointer (some ⟨o, 0, none⟩)) ∧ OrcOn w0 w' F o p ms room := by
  have H1 := Aside0.mk h
  have HS := Aside0.mk hs
  have CN := Aside0.mk hs.cnt
  clear h hs
  go_enter Try.func37, Try.ntmps37
  go_wp2_with fail
  refine (lopen_logB ms HS.out.good (by have h1 := HS.out.len; have h2 := HS.out.r1; omega) H1.out).mono ?_
  rintro e w2 ⟨q, A, n, c, l, rfl, hl, hln, hn2, hh, hn3, h2⟩
  have H2 := Aside0.mk h2
  have HLM := Aside0.mk hl
  have HN2 := Aside0.mk hn2
  have MC := Aside0.mk (cut_msgs h2 hln (by omega) hh)
  have GK := Aside0.mk (show ∀ x ∈ l, MsgOk x.m from fun x hx => (HS.out.good x.m (by rw [← HLM.out]; exact List.mem_map.2 ⟨x, hx, rfl⟩)).ok)
  clear h2 hl hln hn2 hh hn3
  go_wp2_with fail
  refine (oopen_run A n c q l MC.out GK.out (by have h1 := CN.out; have h2 := HN2.out; omega)).mono ?_
  rintro e w3 ⟨o, rfl, h3⟩
  have H3 := Aside0.mk h3
  clear h3
  go_wp2_with fail
  go_ret
  refine ⟨o, rfl, q, ?_⟩
  have h4 := orc_trans H3.out H2.out
  rw [HLM.out, HN2.out] at h4
  exact orc_drop (orc_frame h4 (G := (logP q p (ms.length : Nat) * (disk p (logB ms) ((logB ms).length : Int) room * F)) * (crow 12 27 A ms.length c (l.flatMap mhC) * msgsP l)) (by ac_rfl))
end
end Go.Proofs.Ytckdkbjobipniaa
