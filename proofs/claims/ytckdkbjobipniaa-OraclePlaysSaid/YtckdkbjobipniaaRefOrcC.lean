/- The document's oracle: Open, Pending, Closed. Printed by wip/gen/reforcc.py. -/
import Derived.Test.YtckdkbjobipniaaRefOrcB
set_option linter.unusedVariables false
set_option linter.unusedSimpArgs false
namespace Go.Proofs.Ytckdkbjobipniaa
open Go.RowKit Go.Proofs.YtckdkbjobipniaaW.PrintWords Go.Proofs.YtckdkbjobipniaaW.PrintLast
theorem store_row_runP {P : Program} {o : Oper} {a : Act} {w : World} (ty : TypeId) (x y : Operand) (ho : o.op = .store ty x y) (g : Nat) (cells : Array Value) (hx : a.eval x = .pointer (some ⟨g, 0, none⟩)) (hy : a.eval y = .agg cells)
    (t : TypeId) (old : Array Value) (hg : w.heap[g]? = some (.cells old t (0, 0))) (hi : (P.info? ty).map (·.size) = some cells.size) (hold : old.size = cells.size) (h1 : cells.all (·.oneCell') = true) : (execOp a.eval o).run P w = .ok .skip (w.setRow g cells) := by
  unfold execOp
  simp only [ho, hx, hy, Instr.storeAt, Instr.sureAddr, Sem.run_bind, Sem.run_pure, Result.andThen_ok, run_storeVar_row w g t ty old cells hg hi hold h1]
theorem setRowP {w0 W : World} {F : HP} {g : Nat} {old : Array Value} {e : TypeId} (h : Hw w0 W (blk g (.cells old e (0, 0)) * F)) (cells : Array Value) (hold : old.size = cells.size) : Hw w0 (W.setRow g cells) (blk g (.cells cells e (0, 0)) * F) := by
  have hg := h.blk_at.1
  refine h.turn rfl rfl rfl (by simp [World.setRow]) (fun i hi hne => ?_) ?_
  · simp [World.setRow, Array.getElem?_modify, Ne.symm hne]
  · simp [World.setRow, Array.getElem?_modify, hg]
theorem done_len (ms : List Msg) : (oopen ms).done.length ≤ ms.length := by
  have : ∀ (l : List Msg) (s : Orc), (l.foldl oreplay s).done.length ≤ s.done.length + l.length := by
    intro l
    induction l with
    | nil => exact fun s => by simp
    | cons m l ih =>
      intro s
      have h1 := ih (oreplay s m)
      have h2 : (oreplay s m).done.length ≤ s.done.length + 1 := by
        unfold oreplay
        split
        · simp
        · split <;> simp
      simp only [List.foldl_cons, List.length_cons]
      omega
  have := this ms ⟨[], []⟩
  simpa [oopen] using this
set_option maxHeartbeats 12800000 in
set_option maxRecDepth 100000 in
theorem r14open_ok (t : ByteArray) (dur room : Int) (A : Option Addr) (n c : Nat) (l : List MH) (w : World) (hA : MsgsC w A n l) (hn : n ≤ 1000000) :
    Calls Try.prog 38 #[.agg #[.string t, .int .i64 dur, .int .i64 room], .slice A n c] w fun e w' => ∃ A' n' c' B' m' d', e = .returned (.agg #[.string t, .int .i64 dur, .int .i64 room, .slice A' n' c', .slice B' m' d']) ∧ n' = (oopen (l.map (·.m))).iss.length ∧ m' = (oopen (l.map (·.m))).done.length ∧ Hw w w' (crow 12 27 A' n' c' (issCells (oopen (l.map (·.m))).iss) * (crow 1 2 B' m' d' ((oopen (l.map (·.m))).done.flatMap intC) * HP.emp)) := by
  have HA := Aside0.mk hA
  have LL := Aside0.mk hA.len
  have H1 := Aside0.mk (((Hw.start w).alloc (.cells #[.string t, .int .i64 dur, .int .i64 room] 51)).alloc (.cells #[.string ⟨#[]⟩, .int .i64 0, .int .i64 0, .slice none 0 0, .slice none 0 0] 77))
  have HX := Aside0.mk (H1.out.alloc (.cells #[.string ⟨#[]⟩, .int .i64 0, .int .i64 0, .slice none 0 0, .slice none 0 0] 77))
  simp only [World.size_alloc] at H1 HX
  have k0 := H1.out.cellAt w.heap.size 0 (v := .string t) rfl
  have k1 := H1.out.cellAt w.heap.size 1 (v := .int .i64 dur) rfl
  have k2 := H1.out.cellAt w.heap.size 2 (v := .int .i64 room) rfl
  clear hA
  go_enter Try.func38, Try.ntmps38
  go_wp2_with (refine Hw.store_row rfl 77 (.tmp 5) (.tmp 8) rfl (w.heap.size + 1 + 1) #[.string t, .int .i64 dur, .int .i64 room, .slice none 0 0, .slice none 0 0] rfl rfl HX.out (by kernel_rfl) (by rfl) (by first | kernel_rfl | rfl | simp [Value.oneCell']) ?_; intro w4 H4)
  obtain ⟨b2, hb2⟩ : ∃ b, b = w.heap.size + 1 := ⟨_, rfl⟩
  obtain ⟨b3, hb3⟩ : ∃ b, b = w.heap.size + 1 + 1 := ⟨_, rfl⟩
  have n23 : ¬ b2 = b3 := by omega
  have n32 : ¬ b3 = b2 := by omega
  rw [← hb3, ← hb2] at H4
  rw [← hb3, ← hb2]
  clear hb2 hb3 HX k0 k1 k2 H1
  go_loopw [6] (fun i wr => ∃ (j : Nat) (A2 : Option Addr) (n2 c2 : Nat) (B2 : Option Addr) (m2 d2 : Nat), j ≤ n ∧ i = .int .i64 j ∧ Aside0 (n2 = (oopen ((l.take j).map (·.m))).iss.length) ∧ Aside0 (m2 = (oopen ((l.take j).map (·.m))).done.length) ∧ Aside0 (Hw w wr (blk b3 (.cells #[.string t, .int .i64 dur, .int .i64 room, .slice A2 n2 c2, .slice B2 m2 d2] 77) * (blk b2 (.cells #[.string ⟨#[]⟩, .int .i64 0, .int .i64 0, .slice none 0 0, .slice none 0 0] 77) * (crow 12 27 A2 n2 c2 (issCells (oopen ((l.take j).map (·.m))).iss) * (crow 1 2 B2 m2 d2 ((oopen ((l.take j).map (·.m))).done.flatMap intC) * HP.emp))))))
    (fun i _ => n - (intOf i).toNat)
  case atStart => exact ⟨0, none, 0, 0, none, 0, 0, Nat.zero_le _, rfl, ⟨rfl⟩, ⟨rfl⟩, ⟨(crow_none (sz := 12) (e := 27) (A := none) (cs := []) rfl rfl (crow_none (sz := 1) (e := 2) (A := none) (cs := []) rfl rfl (H4.out.dropB w.heap.size))).as (by show _ = blk b3 _ * (blk b2 _ * (crow 12 27 none 0 0 [] * (crow 1 2 none 0 0 [] * HP.emp))); ac_rfl)⟩⟩
  case round =>
    obtain ⟨j, A2, n2, c2, B2, m2, d2, hj, rfl, NA, NB, HW⟩ := hrel
    clear H4
    by_cases hlt : j < n
    · obtain ⟨ad, ⟨M, ⟨p1, q1, r1⟩, ⟨p2, q2, r2⟩, ⟨p3, q3, r3⟩, ⟨p4, q4, r4⟩⟩, rfl, hx, XC, XA⟩ := msgs_at HA.out j hlt
      have HD := Aside0.mk HW.out.drew
      have XP := XA.out.below HD.out.below
      have po0 := HD.out.cellAt b3 0 (v := .string t) rfl
      have po1 := HD.out.cellAt b3 1 (v := .int .i64 dur) rfl
      have po2 := HD.out.cellAt b3 2 (v := .int .i64 room) rfl
      have po3 := HD.out.cellAt b3 3 (v := .slice A2 n2 c2) rfl
      have po4 := HD.out.cellAt b3 4 (v := .slice B2 m2 d2) rfl
      have pm0 := (XP).c0
      have pm1 := (XP).c1
      have pm2 := (XP).c2
      have pm3 := (XP).c3
      have pm4 := (XP).c4
      have pm5 := (XP).c5
      have pm6 := (XP).c6
      have pm7 := (XP).c7
      have pm8 := (XP).c8
      have pm9 := (XP).c9
      have pm10 := (XP).c10
      have pm11 := (XP).c11
      have RP := Aside0.mk (r14replay_ok t dur room A2 n2 c2 B2 m2 d2 (oopen ((l.take j).map (·.m))) M p1 p2 p3 p4 q1 q2 q3 q4 r1 r2 r3 r4 (HD.out.as (by ac_rfl : _ = (crow 12 27 A2 n2 c2 (issCells (oopen ((l.take j).map (·.m))).iss) * (crow 1 2 B2 m2 d2 ((oopen ((l.take j).map (·.m))).done.flatMap intC) * (blk b3 (.cells #[.string t, .int .i64 dur, .int .i64 room, .slice A2 n2 c2, .slice B2 m2 d2] 77) * (blk b2 (.cells #[.string ⟨#[]⟩, .int .i64 0, .int .i64 0, .slice none 0 0, .slice none 0 0] 77) * HP.emp)))))) (oopen_ok _) NA.out NB.out (by have h1 := NA.out; have h2 := oopen_len ((l.take j).map (·.m)); rw [List.length_map, List.length_take] at h2; omega) (by have h1 := NB.out; have h2 := done_len ((l.take j).map (·.m)); rw [List.length_map, List.length_take] at h2; omega))
      clear XP
      go_upto_region 5 with fail
      refine start_ (n := 7) (S := fun w' => w'.cell? ⟨b3, 0, none⟩ = some (.string t) ∧ w'.cell? ⟨b3, 1, none⟩ = some (.int .i64 dur) ∧ w'.cell? ⟨b3, 2, none⟩ = some (.int .i64 room) ∧ w'.cell? ⟨b3, 3, none⟩ = some (.slice A2 n2 c2) ∧ w'.cell? ⟨b3, 4, none⟩ = some (.slice B2 m2 d2) ∧ w'.cell? (ad.add (j * 12)) = some (.int .i64 M.kind) ∧ w'.cell? ⟨(ad.add (j * 12)).block, (ad.add (j * 12)).off + 1, none⟩ = some (.int .i64 M.src) ∧ w'.cell? ⟨(ad.add (j * 12)).block, (ad.add (j * 12)).off + 2, none⟩ = some (.int .i64 M.dst) ∧ w'.cell? ⟨(ad.add (j * 12)).block, (ad.add (j * 12)).off + 3, none⟩ = some (.int .i64 M.id) ∧ w'.cell? ⟨(ad.add (j * 12)).block, (ad.add (j * 12)).off + 4, none⟩ = some (.int .i64 M.rev) ∧ w'.cell? ⟨(ad.add (j * 12)).block, (ad.add (j * 12)).off + 5, none⟩ = some (.int .i64 M.epoch) ∧ w'.cell? ⟨(ad.add (j * 12)).block, (ad.add (j * 12)).off + 6, none⟩ = some (.int .i64 M.slot) ∧ w'.cell? ⟨(ad.add (j * 12)).block, (ad.add (j * 12)).off + 7, none⟩ = some (.bool M.flag) ∧ w'.cell? ⟨(ad.add (j * 12)).block, (ad.add (j * 12)).off + 8, none⟩ = some (.slice p1 q1 r1) ∧ w'.cell? ⟨(ad.add (j * 12)).block, (ad.add (j * 12)).off + 9, none⟩ = some (.slice p2 q2 r2) ∧ w'.cell? ⟨(ad.add (j * 12)).block, (ad.add (j * 12)).off + 10, none⟩ = some (.slice p3 q3 r3) ∧ w'.cell? ⟨(ad.add (j * 12)).block, (ad.add (j * 12)).off + 11, none⟩ = some (.slice p4 q4 r4)) (ds := [6]) #[false, false, false, false, false, false, false] (by kernel_rfl) rfl rfl ⟨po0, po1, po2, po3, po4, pm0, pm1, pm2, pm3, pm4, pm5, pm6, pm7, pm8, pm9, pm10, pm11⟩ (fun hHeld => ?_)
      refine pure_ (i := 1) (N := some 16) (v := ?_) (a' := ?_) #[false, true, false, false, false, false, false] rfl rfl (by kernel_rfl) (fun _ _ _ h => h) (Or.inl ⟨by rfl, ?_⟩) ?_ ?_
      rotate_left
      · intro w'
        go_simp
        with_reducible rfl
      rotate_left
      · simp only [Act.put, List.setIfInBounds_toArray, List.set_cons_zero, List.set_cons_succ, i64_w, i32_w]
        rfl
      refine pure_ (i := 2) (N := some 17) (v := ?_) (a' := ?_) #[false, true, true, false, false, false, false] rfl rfl (by kernel_rfl) (fun _ _ _ h => h) (Or.inl ⟨by rfl, ?_⟩) ?_ ?_
      rotate_left
      · intro w'
        go_simp
        with_reducible rfl
      rotate_left
      · simp only [Act.put, List.setIfInBounds_toArray, List.set_cons_zero, List.set_cons_succ, i64_w, i32_w]
        rfl
      refine pure_ (i := 3) (N := some 18) (v := ?_) (a' := ?_) #[false, true, true, true, false, false, false] rfl rfl (by kernel_rfl) (fun _ _ _ h => h) (Or.inl ⟨by rfl, ?_⟩) ?_ ?_
      rotate_left
      · intro w'
        go_simp
        with_reducible rfl
      rotate_left
      · simp only [Act.put, List.setIfInBounds_toArray, List.set_cons_zero, List.set_cons_succ, i64_w, i32_w]
        rfl
      refine take_ (i := 0) (N := some 15) (v := ?_) (a' := ?_) #[true, true, true, true, false, false, false] rfl rfl (by kernel_rfl) (fun _ _ _ h => h) (Or.inl ⟨by rfl, ?_⟩) hHeld ?_ ?_
      rotate_left
      · rintro w' ⟨s0, s1, s2, s3, s4, s5, s6, s7, s8, s9, s10, s11, s12, s13, s14, s15, s16⟩
        go_simp
        with_reducible rfl
      rotate_left
      · simp only [Act.put, List.setIfInBounds_toArray, List.set_cons_zero, List.set_cons_succ, i64_w, i32_w]
        rfl
      refine take_ (i := 4) (N := some 19) (v := ?_) (a' := ?_) #[true, true, true, true, true, false, false] rfl rfl (by kernel_rfl) (fun _ _ _ h => h) (Or.inl ⟨by rfl, ?_⟩) hHeld ?_ ?_
      rotate_left
      · rintro w' ⟨s0, s1, s2, s3, s4, s5, s6, s7, s8, s9, s10, s11, s12, s13, s14, s15, s16⟩
        go_simp
        with_reducible rfl
      rotate_left
      · simp only [Act.put, List.setIfInBounds_toArray, List.set_cons_zero, List.set_cons_succ, i64_w, i32_w]
        rfl
      refine one_ (i := 5) (N := some 20) #[true, true, true, true, true, true, false] rfl rfl (by kernel_rfl) (by decide) (fun K hK => ?_)
      refine goes_ Try.func88 (by kernel_rfl) rfl #[.agg #[.string t, .int .i64 dur, .int .i64 room, .slice A2 n2 c2, .slice B2 m2 d2], .agg #[.int .i64 M.kind, .int .i64 M.src, .int .i64 M.dst, .int .i64 M.id, .int .i64 M.rev, .int .i64 M.epoch, .int .i64 M.slot, .bool M.flag, .slice p1 q1 r1, .slice p2 q2 r2, .slice p3 q3 r3, .slice p4 q4 r4]] (by rfl) rfl rfl (by simp only [List.map_toArray, List.map_cons, List.map_nil]; rfl) ?_
      with_reducible refine (RP.out).mono ?_
      rintro e w5 ⟨A5, n5, c5, B5, m5, d5, rfl, f1, f2, f3⟩
      refine ⟨_, rfl, ?_⟩
      have FA := Aside0.mk f1
      have FB := Aside0.mk f2
      have H5 := Aside0.mk (f3.as (by ac_rfl : _ = blk b3 (.cells #[.string t, .int .i64 dur, .int .i64 room, .slice A2 n2 c2, .slice B2 m2 d2] 77) * (blk b2 (.cells #[.string ⟨#[]⟩, .int .i64 0, .int .i64 0, .slice none 0 0, .slice none 0 0] 77) * (crow 12 27 A5 n5 c5 (issCells (oreplay (oopen ((l.take j).map (·.m))) M).iss) * (crow 1 2 B5 m5 d5 ((oreplay (oopen ((l.take j).map (·.m))) M).done.flatMap intC) * HP.emp)))))
      have HG := Aside0.mk H5.out.blk_at.1
      clear f1 f2 f3
      have qo0 := H5.out.cellAt b3 0 (v := .string t) rfl
      have qo1 := H5.out.cellAt b3 1 (v := .int .i64 dur) rfl
      have qo2 := H5.out.cellAt b3 2 (v := .int .i64 room) rfl
      have qo3 := H5.out.cellAt b3 3 (v := .slice A2 n2 c2) rfl
      have qo4 := H5.out.cellAt b3 4 (v := .slice B2 m2 d2) rfl
      have XQ := XA.out.below H5.out.below
      have qm0 := (XQ).c0
      have qm1 := (XQ).c1
      have qm2 := (XQ).c2
      have qm3 := (XQ).c3
      have qm4 := (XQ).c4
      have qm5 := (XQ).c5
      have qm6 := (XQ).c6
      have qm7 := (XQ).c7
      have qm8 := (XQ).c8
      have qm9 := (XQ).c9
      have qm10 := (XQ).c10
      have qm11 := (XQ).c11
      refine hK.out _ _ ⟨qo0, qo1, qo2, qo3, qo4, qm0, qm1, qm2, qm3, qm4, qm5, qm6, qm7, qm8, qm9, qm10, qm11⟩ (fun hHeld => ?_)
      clear hK K
      refine norm_ (a' := ?_) ?_ ?_
      rotate_left
      · show Act.put _ (some 20) _ = _
        simp only [Act.put, List.setIfInBounds_toArray, List.set_cons_zero, List.set_cons_succ, i64_w, i32_w]
        rfl
      refine last_ (i := 6) (N := none) #[true, true, true, true, true, true, true] rfl rfl (by kernel_rfl) (by decide) (fun K hK => ?_)
      refine skip_ (w1 := _) (by rfl) rfl (store_row_runP 77 (.tmp 5) (.tmp 20) rfl b3 #[.string t, .int .i64 dur, .int .i64 room, .slice A5 n5 c5, .slice B5 m5 d5] rfl rfl 77 _ HG.out (by kernel_rfl) (by rfl) (by first | kernel_rfl | rfl | simp [Value.oneCell'])) ?_
      refine hK.out _ _ ?_
      clear hK K
      refine done_ (by kernel_rfl) ?_
      clear hHeld po0 po1 po2 po3 po4 pm0 pm1 pm2 pm3 pm4 pm5 pm6 pm7 pm8 pm9 pm10 pm11 qo0 qo1 qo2 qo3 qo4 qm0 qm1 qm2 qm3 qm4 qm5 qm6 qm7 qm8 qm9 qm10 qm11
      have H6 := Aside0.mk (setRowP H5.out #[.string t, .int .i64 dur, .int .i64 room, .slice A5 n5 c5, .slice B5 m5 d5] rfl)
      have EQ := Aside0.mk (show oreplay (oopen ((l.take j).map (·.m))) M = (oopen ((l.take (j + 1)).map (·.m))) by rw [take_snoc_of hx.out, List.map_append]; exact (oopen_snoc _ _).symm)
      rw [EQ.out] at H6 FA FB
      clear H5 HG RP HD XA XC hx HW XQ
      go_wp2_with fail
      go_roundw
      case rel => exact ⟨j + 1, A5, n5, c5, B5, m5, d5, by omega, by go_num, FA, FB, H6⟩
      case measure => simp [intOf]; omega
    · have hjn : j = n := by omega
      subst hjn
      have HTK := Aside0.mk (show l.take j = l from List.take_of_length_le (by rw [LL.out]; exact Nat.le_refl _))
      rw [HTK.out] at HW NA NB
      have o0 := HW.out.cellAt b3 0 (v := .string t) rfl
      have o1 := HW.out.cellAt b3 1 (v := .int .i64 dur) rfl
      have o2 := HW.out.cellAt b3 2 (v := .int .i64 room) rfl
      have o3 := HW.out.cellAt b3 3 (v := .slice A2 n2 c2) rfl
      have o4 := HW.out.cellAt b3 4 (v := .slice B2 m2 d2) rfl
      have HB2 := Aside0.mk (HW.out.atB b2)
      go_wp2_with (refine Hw.store_row rfl 77 (.tmp 4) (.tmp 21) rfl b2 #[.string t, .int .i64 dur, .int .i64 room, .slice A2 n2 c2, .slice B2 m2 d2] rfl rfl HB2.out (by kernel_rfl) (by rfl) (by first | kernel_rfl | rfl | simp [Value.oneCell']) ?_; intro wz HZ; have y0 := HZ.out.cellAt b2 0 (v := .string t) rfl; have y1 := HZ.out.cellAt b2 1 (v := .int .i64 dur) rfl; have y2 := HZ.out.cellAt b2 2 (v := .int .i64 room) rfl; have y3 := HZ.out.cellAt b2 3 (v := .slice A2 n2 c2) rfl; have y4 := HZ.out.cellAt b2 4 (v := .slice B2 m2 d2) rfl)
      exact bodyPost_ret (v := .agg #[.string t, .int .i64 dur, .int .i64 room, .slice A2 n2 c2, .slice B2 m2 d2]) (by simp [results, Try.results38, go_sem, y0, y1, y2, y3, y4]) rfl ⟨A2, n2, c2, B2, m2, d2, rfl, NA.out, NB.out, (HZ.out.dropB b2).dropB b3⟩
set_option maxHeartbeats 12800000 in
set_option maxRecDepth 100000 in
theorem r14pend_ok (t : ByteArray) (dur room : Int) (A : Option Addr) (n c : Nat) (B : Option Addr) (m d : Nat) (l : List Iss) (ids : List Int) (w : World) (hA : MsgsC w A n (l.map issMH)) (hn : n ≤ 1000000) (hB : (Kd.int .i64).C w B m ids) (hm : m ≤ 1000000) :
    Calls Try.prog 49 #[.agg #[.string t, .int .i64 dur, .int .i64 room, .slice A n c, .slice B m d]] w fun e w' => ∃ A' n' c', e = .returned (.slice A' n' c') ∧ n' = (opend ⟨l, ids⟩).length ∧ Hw w w' (crow 12 27 A' n' c' (issCells (opend ⟨l, ids⟩)) * HP.emp) := by
  have HA := Aside0.mk hA
  have HB := Aside0.mk hB
  have H1 := Aside0.mk ((Hw.start w).alloc (.cells #[.string t, .int .i64 dur, .int .i64 room, .slice A n c, .slice B m d] 77))
  have LL := Aside0.mk (show l.length = n by have h := hA.len; rwa [List.length_map] at h)
  clear hA hB
  go_enter Try.func49, Try.ntmps49
  go_wp2_with fail
  go_loopw [4, 3] (fun i v wr => ∃ (j : Nat) (AL : Option Addr) (nL cL : Nat), j ≤ n ∧ i = .int .i64 j ∧ v = .slice AL nL cL ∧ Aside0 (nL = ((l.take j).filter (fun x => !ids.contains x.id)).length) ∧ Aside0 (Hw w wr (crow 12 27 AL nL cL (issCells ((l.take j).filter (fun x => !ids.contains x.id))) * (blk w.heap.size (.cells #[.string t, .int .i64 dur, .int .i64 room, .slice A n c, .slice B m d] 77) * HP.emp))))
    (fun i _ _ => n - (intOf i).toNat)
  case atStart => exact ⟨0, none, 0, 0, Nat.zero_le _, rfl, rfl, ⟨rfl⟩, ⟨crow_none rfl rfl H1.out⟩⟩
  case round =>
    obtain ⟨j, AL, nL, cL, hj, rfl, rfl, NL, HW⟩ := hrel
    clear H1
    have k3 := HW.out.cellAt w.heap.size 3 (v := .slice A n c) rfl
    have nLle : nL ≤ 1000000 := by
      have h1 := NL.out
      have h2 := List.length_filter_le (fun x : Iss => !ids.contains x.id) (l.take j)
      rw [List.length_take] at h2
      omega
    by_cases hlt : j < n
    · obtain ⟨ad, xh, rfl, hx, XC, XA⟩ := msgs_at HA.out j hlt
      obtain ⟨y, hy, rfl⟩ : ∃ y, l[j]? = some y ∧ xh = issMH y := by
        have h1 := hx.out
        rw [List.getElem?_map] at h1
        cases h2 : l[j]? with
        | none => rw [h2] at h1; exact absurd h1 (by simp)
        | some y => rw [h2] at h1; exact ⟨y, rfl, by injection h1 with h1; exact h1.symm⟩
      have HY := Aside0.mk hy
      have TK := Aside0.mk (take_snoc_of hy)
      clear hx hy XC
      have HD := Aside0.mk HW.out.drew
      have po0 := HD.out.cellAt w.heap.size 0 (v := .string t) rfl
      have po1 := HD.out.cellAt w.heap.size 1 (v := .int .i64 dur) rfl
      have po2 := HD.out.cellAt w.heap.size 2 (v := .int .i64 room) rfl
      have po3 := HD.out.cellAt w.heap.size 3 (v := .slice (some ad) n c) rfl
      have po4 := HD.out.cellAt w.heap.size 4 (v := .slice B m d) rfl
      have pm := (XA.out.below HD.out.below).c3
      have MD := Aside0.mk (HA.out.below HD.out.below)
      have BD := Aside0.mk (Kd.C_below HB.out HD.out.below)
      go_upto_region 5 with fail
      refine start_ (n := 9) (S := fun w' => w'.cell? ⟨w.heap.size, 0, none⟩ = some (.string t) ∧ w'.cell? ⟨w.heap.size, 1, none⟩ = some (.int .i64 dur) ∧ w'.cell? ⟨w.heap.size, 2, none⟩ = some (.int .i64 room) ∧ w'.cell? ⟨w.heap.size, 3, none⟩ = some (.slice (some ad) n c) ∧ w'.cell? ⟨w.heap.size, 4, none⟩ = some (.slice B m d) ∧ w'.cell? ⟨(ad.add (j * 12)).block, (ad.add (j * 12)).off + 3, none⟩ = some (.int .i64 y.id)) (ds := []) #[false, false, false, false, false, false, false, false, false] (by kernel_rfl) rfl rfl ⟨po0, po1, po2, po3, po4, pm⟩ (fun hHeld => ?_)
      refine pure_ (i := 1) (N := some 13) (v := ?_) (a' := ?_) #[false, true, false, false, false, false, false, false, false] rfl rfl (by kernel_rfl) (fun _ _ _ h => h) (Or.inl ⟨by rfl, ?_⟩) ?_ ?_
      rotate_left
      · intro w'
        go_simp
        with_reducible rfl
      rotate_left
      · simp only [Act.put, List.setIfInBounds_toArray, List.set_cons_zero, List.set_cons_succ, i64_w, i32_w]
        rfl
      refine pure_ (i := 3) (N := some 15) (v := ?_) (a' := ?_) #[false, true, false, true, false, false, false, false, false] rfl rfl (by kernel_rfl) (fun _ _ _ h => h) (Or.inl ⟨by rfl, ?_⟩) ?_ ?_
      rotate_left
      · intro w'
        go_simp
        with_reducible rfl
      rotate_left
      · simp only [Act.put, List.setIfInBounds_toArray, List.set_cons_zero, List.set_cons_succ, i64_w, i32_w]
        rfl
      refine take_ (i := 0) (N := some 12) (v := ?_) (a' := ?_) #[true, true, false, true, false, false, false, false, false] rfl rfl (by kernel_rfl) (fun _ _ _ h => h) (Or.inl ⟨by rfl, ?_⟩) hHeld ?_ ?_
      rotate_left
      · rintro w' ⟨s0, s1, s2, s3, s4, s5⟩
        go_simp
        with_reducible rfl
      rotate_left
      · simp only [Act.put, List.setIfInBounds_toArray, List.set_cons_zero, List.set_cons_succ, i64_w, i32_w]
        rfl
      refine take_ (i := 2) (N := some 14) (v := ?_) (a' := ?_) #[true, true, true, true, false, false, false, false, false] rfl rfl (by kernel_rfl) (fun _ _ _ h => h) (Or.inl ⟨by rfl, ?_⟩) hHeld ?_ ?_
      rotate_left
      · rintro w' ⟨s0, s1, s2, s3, s4, s5⟩
        go_simp
        with_reducible rfl
      rotate_left
      · simp only [Act.put, List.setIfInBounds_toArray, List.set_cons_zero, List.set_cons_succ, i64_w, i32_w]
        rfl
      refine pure_ (i := 4) (N := some 16) (v := ?_) (a' := ?_) #[true, true, true, true, true, false, false, false, false] rfl rfl (by kernel_rfl) (fun _ _ _ h => h) (Or.inl ⟨by rfl, ?_⟩) ?_ ?_
      rotate_left
      · intro w'
        go_simp
        with_reducible rfl
      rotate_left
      · simp only [Act.put, List.setIfInBounds_toArray, List.set_cons_zero, List.set_cons_succ, i64_w, i32_w]
        rfl
      refine pure_ (i := 5) (N := some 17) (v := ?_) (a' := ?_) #[true, true, true, true, true, true, false, false, false] rfl rfl (by kernel_rfl) (fun _ _ _ h => h) (Or.inl ⟨by rfl, ?_⟩) ?_ ?_
      rotate_left
      · intro w'
        go_simp
        with_reducible rfl
      rotate_left
      · simp only [Act.put, List.setIfInBounds_toArray, List.set_cons_zero, List.set_cons_succ, i64_w, i32_w]
        rfl
      refine take_ (i := 6) (N := some 18) (v := ?_) (a' := ?_) #[true, true, true, true, true, true, true, false, false] rfl rfl (by kernel_rfl) (fun _ _ _ h => h) (Or.inl ⟨by rfl, ?_⟩) hHeld ?_ ?_
      rotate_left
      · rintro w' ⟨s0, s1, s2, s3, s4, s5⟩
        go_simp
        with_reducible rfl
      rotate_left
      · simp only [Act.put, List.setIfInBounds_toArray, List.set_cons_zero, List.set_cons_succ, i64_w, i32_w]
        rfl
      refine one_ (i := 7) (N := some 19) #[true, true, true, true, true, true, true, true, false] rfl rfl (by kernel_rfl) (by decide) (fun K hK => ?_)
      refine goes_ Try.func92 (by kernel_rfl) rfl #[.agg #[.string t, .int .i64 dur, .int .i64 room, .slice (some ad) n c, .slice B m d], .int .i64 y.id] (by rfl) rfl rfl (by simp only [List.map_toArray, List.map_cons, List.map_nil]; rfl) ?_
      with_reducible refine (r14done_ok t dur room (some ad) n c B m d l ids _ MD.out hn BD.out y.id hm).mono ?_
      rintro e w5 ⟨rfl, hb5⟩
      refine ⟨_, rfl, ?_⟩
      have H5 := Aside0.mk (HD.out.from_below hb5)
      clear hb5
      have qo0 := H5.out.cellAt w.heap.size 0 (v := .string t) rfl
      have qo1 := H5.out.cellAt w.heap.size 1 (v := .int .i64 dur) rfl
      have qo2 := H5.out.cellAt w.heap.size 2 (v := .int .i64 room) rfl
      have qo3 := H5.out.cellAt w.heap.size 3 (v := .slice (some ad) n c) rfl
      have qo4 := H5.out.cellAt w.heap.size 4 (v := .slice B m d) rfl
      have qm := (XA.out.below H5.out.below).c3
      refine hK.out _ _ ⟨qo0, qo1, qo2, qo3, qo4, qm⟩ (fun hHeld => ?_)
      clear hK K
      refine norm_ (a' := ?_) ?_ ?_
      rotate_left
      · show Act.put _ (some 19) _ = _
        simp only [Act.put, List.setIfInBounds_toArray, List.set_cons_zero, List.set_cons_succ, i64_w, i32_w]
        rfl
      refine pure_ (i := 8) (N := some 20) (v := ?_) (a' := ?_) #[true, true, true, true, true, true, true, true, true] rfl rfl (by kernel_rfl) (fun _ _ _ h => h) (Or.inl ⟨by rfl, ?_⟩) ?_ ?_
      rotate_left
      · intro w'
        go_simp
        with_reducible rfl
      rotate_left
      · simp only [Act.put, List.setIfInBounds_toArray, List.set_cons_zero, List.set_cons_succ, i64_w, i32_w]
        rfl
      refine done_ (by kernel_rfl) ?_
      clear hHeld
      clear po0 po1 po2 po3 po4 pm k3 qm
      by_cases hd : y.id ∈ ids
      · rw [decide_eq_true hd]
        have FE := Aside0.mk (show (l.take (j + 1)).filter (fun x => !ids.contains x.id) = ((l.take j).filter (fun x => !ids.contains x.id)) by
          rw [TK.out, List.filter_append]
          have : ([y] : List Iss).filter (fun x => !ids.contains x.id) = [] := by simp [hd]
          rw [this, List.append_nil])
        clear hd
        go_wp2_with fail
        go_roundw
        case rel => exact ⟨j + 1, AL, nL, cL, by omega, by go_num, rfl, ⟨by rw [FE.out]; exact NL.out⟩, ⟨by rw [FE.out]; exact H5.out⟩⟩
        case measure => simp [intOf]; omega
      · rw [decide_eq_false hd]
        have FE := Aside0.mk (show (l.take (j + 1)).filter (fun x => !ids.contains x.id) = ((l.take j).filter (fun x => !ids.contains x.id)) ++ [y] by
          rw [TK.out, List.filter_append]
          have : ([y] : List Iss).filter (fun x => !ids.contains x.id) = [y] := by simp [hd]
          rw [this])
        clear hd
        have XE := XA.out.below H5.out.below
        have H6n := H5.out.alloc (.cells #[.int .i64 1, .int .i64 y.src, .int .i64 0, .int .i64 y.id, .int .i64 y.rev, .int .i64 0, .int .i64 0, .bool false, .slice none 0 0, .slice none 0 0, .slice none 0 0, .slice none 0 0] 27)
        have H6 := Aside0.mk (H6n.at (crow 12 27 AL nL cL (issCells ((l.take j).filter (fun x => !ids.contains x.id)))))
        have RDB := blk_cells H6n
        have ltw := H5.out.ltB w.heap.size
        have z0 : w5.cell? (ad.add (j * 12)) = some (.int .i64 1) := XE.c0
        have z1 : w5.cell? ⟨(ad.add (j * 12)).block, (ad.add (j * 12)).off + 1, none⟩ = some (.int .i64 y.src) := XE.c1
        have z2 : w5.cell? ⟨(ad.add (j * 12)).block, (ad.add (j * 12)).off + 2, none⟩ = some (.int .i64 0) := XE.c2
        have z3 : w5.cell? ⟨(ad.add (j * 12)).block, (ad.add (j * 12)).off + 3, none⟩ = some (.int .i64 y.id) := XE.c3
        have z4 : w5.cell? ⟨(ad.add (j * 12)).block, (ad.add (j * 12)).off + 4, none⟩ = some (.int .i64 y.rev) := XE.c4
        have z5 : w5.cell? ⟨(ad.add (j * 12)).block, (ad.add (j * 12)).off + 5, none⟩ = some (.int .i64 0) := XE.c5
        have z6 : w5.cell? ⟨(ad.add (j * 12)).block, (ad.add (j * 12)).off + 6, none⟩ = some (.int .i64 0) := XE.c6
        have z7 : w5.cell? ⟨(ad.add (j * 12)).block, (ad.add (j * 12)).off + 7, none⟩ = some (.bool false) := XE.c7
        have z8 : w5.cell? ⟨(ad.add (j * 12)).block, (ad.add (j * 12)).off + 8, none⟩ = some (.slice none 0 0) := XE.c8
        have z9 : w5.cell? ⟨(ad.add (j * 12)).block, (ad.add (j * 12)).off + 9, none⟩ = some (.slice none 0 0) := XE.c9
        have z10 : w5.cell? ⟨(ad.add (j * 12)).block, (ad.add (j * 12)).off + 10, none⟩ = some (.slice none 0 0) := XE.c10
        have z11 : w5.cell? ⟨(ad.add (j * 12)).block, (ad.add (j * 12)).off + 11, none⟩ = some (.slice none 0 0) := XE.c11
        clear H6n XE
        go_wp2_with (at_builtin; refine crow_append (news := [.int .i64 1, .int .i64 y.src, .int .i64 0, .int .i64 y.id, .int .i64 y.rev, .int .i64 0, .int .i64 0, .bool false, .slice none 0 0, .slice none 0 0, .slice none 0 0, .slice none 0 0]) (m := 1) (c := 1) rfl (.tmp 21) (.tmp 27) 47 (.agg #[.int .i64 0, .int .i64 0, .int .i64 0, .int .i64 0, .int .i64 0, .int .i64 0, .int .i64 0, .bool false, .slice none 0 0, .slice none 0 0, .slice none 0 0, .slice none 0 0]) 160 rfl Try.underlying47 Try.infoMsg rfl (by decide) rfl rfl H6.out rfl (by intro u hu; simp only [List.mem_cons, List.not_mem_nil, or_false] at hu; rcases hu with rfl | rfl | rfl | rfl | rfl | rfl | rfl | rfl | rfl | rfl | rfl | rfl <;> rfl) (fun _ => ⟨_, rfl, RDB⟩) (by decide) (by omega) ?_; intro A7 c7 w7 H7)
        go_roundw
        case rel => exact ⟨j + 1, A7, nL + 1, c7, by omega, by go_num, rfl, ⟨by rw [FE.out, List.length_append, NL.out]; rfl⟩, ⟨by
          rw [FE.out]
          unfold issCells
          rw [List.map_append, List.flatMap_append]
          exact (H7.out.dropB w5.heap.size)⟩⟩
        case measure => simp [intOf]; omega
    · have hjn : j = n := by omega
      subst hjn
      have HF := Aside0.mk (show ((l.take j).filter (fun x => !ids.contains x.id)) = opend ⟨l, ids⟩ by rw [List.take_of_length_le (by rw [LL.out]; exact Nat.le_refl _)]; rfl)
      rw [HF.out] at HW NL
      go_wp2_with fail
      go_ret
      exact ⟨AL, nL, cL, rfl, NL.out, (HW.out.as (HP.left_comm _ _ _)).right⟩
set_option maxHeartbeats 12800000 in
set_option maxRecDepth 100000 in
theorem r14closed_ok (t : ByteArray) (dur room : Int) (A : Option Addr) (n c : Nat) (B : Option Addr) (m d : Nat) (l : List Iss) (ids : List Int) (w : World) (hA : MsgsC w A n (l.map issMH)) (hn : n ≤ 1000000) (hB : (Kd.int .i64).C w B m ids) (hm : m ≤ 1000000) (hr : ∀ x ∈ l, -9223372036854775807 ≤ x.rev ∧ x.rev ≤ 9223372036854775807) :
    Calls Try.prog 46 #[.agg #[.string t, .int .i64 dur, .int .i64 room, .slice A n c, .slice B m d]] w fun e w' => e = .returned (.int .i64 (oclosed ⟨l, ids⟩)) ∧ Below w.heap.size w w' := by
  have HA := Aside0.mk hA
  have HB := Aside0.mk hB
  have HR := Aside0.mk hr
  have H1 := Aside0.mk ((Hw.start w).alloc (.cells #[.string t, .int .i64 dur, .int .i64 room, .slice A n c, .slice B m d] 77))
  have k0 := H1.out.cellAt w.heap.size 0 (v := .string t) rfl
  have k1 := H1.out.cellAt w.heap.size 1 (v := .int .i64 dur) rfl
  have k2 := H1.out.cellAt w.heap.size 2 (v := .int .i64 room) rfl
  have k3 := H1.out.cellAt w.heap.size 3 (v := .slice A n c) rfl
  have k4 := H1.out.cellAt w.heap.size 4 (v := .slice B m d) rfl
  have PE := Aside0.mk (r14pend_ok t dur room A n c B m d l ids _ (hA.below H1.out.below) hn (Kd.C_below hB H1.out.below) hm)
  clear hA hB hr
  go_enter Try.func46, Try.ntmps46
  go_wp2_with fail
  refine PE.out.mono ?_
  rintro e w2 ⟨A2, n2, c2, rfl, hn2, g2⟩
  have H2 := Aside0.mk (H1.out.trans g2)
  have N2 := Aside0.mk hn2
  clear hn2 g2 PE k0 k1 k2 k3 k4
  cases hp : opend ⟨l, ids⟩ with
  | nil =>
    have E := Aside0.mk (show oclosed ⟨l, ids⟩ = olast ⟨l, ids⟩ by unfold oclosed; rw [hp])
    obtain rfl : n2 = 0 := by rw [N2.out, hp]; rfl
    have k0 := H2.out.cellAt w.heap.size 0 (v := .string t) rfl
    have k1 := H2.out.cellAt w.heap.size 1 (v := .int .i64 dur) rfl
    have k2 := H2.out.cellAt w.heap.size 2 (v := .int .i64 room) rfl
    have k3 := H2.out.cellAt w.heap.size 3 (v := .slice A n c) rfl
    have k4 := H2.out.cellAt w.heap.size 4 (v := .slice B m d) rfl
    have LA := Aside0.mk (r14last_ok t dur room A n c B m d l ids _ (HA.out.below H2.out.below) hn)
    clear hp
    go_wp2_with fail
    refine LA.out.mono ?_
    rintro e w3 ⟨rfl, hb3⟩
    have H3 := Aside0.mk (H2.out.from_below hb3)
    rw [← E.out]
    clear hb3 H2 LA k0 k1 k2 k3 k4
    go_wp2_with fail
    go_ret
    exact ⟨rfl, H3.out.below⟩
  | cons x r =>
    have E := Aside0.mk (show oclosed ⟨l, ids⟩ = x.rev - 1 by unfold oclosed; rw [hp])
    have hn0 : 0 < n2 := by rw [N2.out, hp]; simp
    obtain ⟨ad, rfl, hc⟩ := crow_reads (H2.out.at (crow 12 27 A2 n2 c2 (issCells (opend ⟨l, ids⟩)))) hn0
    have c4 : w2.cell? (ad.add 4) = some (.int .i64 x.rev) := hc 4 _ (by rw [hp]; rfl)
    have c4' : w2.cell? ⟨ad.block, ad.off + 4, none⟩ = some (.int .i64 x.rev) := by
      have e : ad.add 4 = ⟨ad.block, ad.off + 4, none⟩ := by unfold Addr.add; rw [if_neg (by decide)]
      rwa [e] at c4
    have hx := HR.out x (List.mem_filter.1 (show x ∈ opend ⟨l, ids⟩ by rw [hp]; simp)).1
    have w1 := (i64_in2 (x.rev - 1) (by omega) (by omega)).1
    have w2' := (i64_in2 (x.rev - 1) (by omega) (by omega)).2
    have hci : (0 : Int) < (n2 : Int) := by omega
    clear hp hc c4
    go_wp2_with fail
    go_ret
    exact ⟨by rw [E.out]; rfl, H2.out.below⟩
end Go.Proofs.Ytckdkbjobipniaa
