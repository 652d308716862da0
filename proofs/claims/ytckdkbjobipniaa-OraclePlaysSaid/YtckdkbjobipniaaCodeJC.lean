/- The reference's tuple. -/
import Derived.Test.YtckdkbjobipniaaCodeJB
set_option linter.unusedVariables false
set_option linter.unusedSimpArgs false
namespace Go.Proofs.Ytckdkbjobipniaa
open Go.RowKit Go.Proofs.YtckdkbjobipniaaW.PrintWords Go.Proofs.YtckdkbjobipniaaW.PrintLast
section
variable {P : Program} {ops : Array Oper} {Q : Exit → Act → World → Prop} {md : Region.Mode} {S : World → Prop} {ds : List Nat}
/-- A region's last store (nothing is introduced: the goal stays as it is). -/
theorem last_skip_ {i : Nat} {oi : Oper} {fuel : Nat} {l : Array Bool} {a : Act} {w w1 : World} (l' : Array Bool) (hi : ops[i]? = some oi) (hN : oi.dst = none) (hc : readyB md ops l l' i = true) (hd : i ∈ ds)
    (hw : Region.wanted oi (yielded ops a.tmps) = true) (hrun : (execOp a.eval oi).run P w = .ok .skip w1) (h : wpAnyLast P md ops Q S ds fuel l' a w1) : wpAnyLast P md ops Q S ds (fuel + 1) l a w :=
  last_ l' hi hN hc hd (fun K hK => skip_ hw hN hrun (hK.out _ _ h))
end
section
variable {w0 w : World} {F : HP} {b : Nat} {e : TypeId} {x y z u v q : Value}
theorem Hw.put2 (h : Hw w0 w (blk b (.cells #[x, y] e (0, 0)) * F)) : Hw w0 ((w.setCell ⟨b, 0, none⟩ u).setCell ⟨b, 1, none⟩ v) (blk b (.cells #[u, v] e (0, 0)) * F) := (h.set 0 u).set 1 v
theorem Hw.put30 (h : Hw w0 w (blk b (.cells #[x, y, z] e (0, 0)) * F)) : Hw w0 (w.setCell ⟨b, 0, none⟩ u) (blk b (.cells #[u, y, z] e (0, 0)) * F) := h.set 0 u
theorem Hw.put31 (h : Hw w0 w (blk b (.cells #[x, y, z] e (0, 0)) * F)) : Hw w0 (w.setCell ⟨b, 1, none⟩ u) (blk b (.cells #[x, u, z] e (0, 0)) * F) := h.set 1 u
theorem Hw.put32 (h : Hw w0 w (blk b (.cells #[x, y, z] e (0, 0)) * F)) : Hw w0 (w.setCell ⟨b, 2, none⟩ u) (blk b (.cells #[x, y, u] e (0, 0)) * F) := h.set 2 u
theorem Hw.put3 (h : Hw w0 w (blk b (.cells #[x, y, z] e (0, 0)) * F)) : Hw w0 (((w.setCell ⟨b, 0, none⟩ u).setCell ⟨b, 1, none⟩ v).setCell ⟨b, 2, none⟩ q) (blk b (.cells #[u, v, q] e (0, 0)) * F) := ((h.set 0 u).set 1 v).set 2 q
end
/-! tuple -/
set_option maxHeartbeats 3200000 in
set_option maxRecDepth 100000 in
theorem reftuple_ok (s : Sr) (hs : SrOk s) (w : World) : Calls Try.prog 79 #[srV s] w (RefPost w (fun _ => True) s rTup tupV) := by
  have RT := Aside0.mk (show srB s rTup = srB s (fun xs => (rText xs).bind fun o ys => (rText ys).bind fun r zs => (rText zs).bind fun u vs => .ok ((o, r, u), vs)) by cases s <;> rfl)
  have RN := Aside0.mk (reftext_ok s hs)
  obtain ⟨T, hT⟩ : ∃ T, srT s = T := ⟨_, rfl⟩
  obtain ⟨c, hc⟩ : ∃ c, srC s = c := ⟨_, rfl⟩
  simp only [srV, hT, hc] at RN
  show Calls Try.prog 79 #[.agg #[.string (srT s), .int .i64 (srC s)]] w _
  rw [hT, hc]
  have H1 := Aside0.mk (((((Hw.start w).alloc (.cells #[.string T, .int .i64 c] 151)).alloc (.cells #[.string ⟨#[]⟩, .string ⟨#[]⟩, .string ⟨#[]⟩] 133)).alloc (.cells #[.string ⟨#[]⟩, .int .i64 0] 151)).alloc (.cells #[.string ⟨#[]⟩, .string ⟨#[]⟩, .string ⟨#[]⟩] 133))
  simp only [World.size_alloc] at H1
  have k0 := H1.out.cellAt w.heap.size 0 (v := .string T) rfl
  have k1 := H1.out.cellAt w.heap.size 1 (v := .int .i64 c) rfl
  clear hT hc hs
  go_enter Try.func79, Try.ntmps79
  go_wp2_with fail
  refine (RN.out _).mono fun e w1 h => ?_
  obtain ⟨o, t1, T1, c1, hto, hT1, hc1, rfl, hbel⟩ := h.elim
  have R1 := Aside0.mk (hto.next RT.out)
  have OK1 := Aside0.mk hto.ok
  have RN1 := Aside0.mk (reftext_ok t1 hto.ok)
  simp only [srV, hT1, hc1] at RN1
  clear h hto RN
  have G1 := Aside0.mk (H1.out.from_below hbel)
  clear hbel H1
  have k0 := G1.out.cellAt w.heap.size 0 (v := .string T) rfl
  have k1 := G1.out.cellAt w.heap.size 1 (v := .int .i64 c) rfl
  have kf := G1.out.freeAt w.heap.size
  have q0 := G1.out.cellAt (w.heap.size + 1 + 1 + 1) 0 (v := .string ⟨#[]⟩) rfl
  have q1 := G1.out.cellAt (w.heap.size + 1 + 1 + 1) 1 (v := .string ⟨#[]⟩) rfl
  have q2 := G1.out.cellAt (w.heap.size + 1 + 1 + 1) 2 (v := .string ⟨#[]⟩) rfl
  have qf := G1.out.freeAt (w.heap.size + 1 + 1 + 1)
  have H2 := Aside0.mk (((G1.out.atB (w.heap.size + 1 + 1 + 1)).put30 (u := .string o)).atB w.heap.size |>.put2 (u := .string T1) (v := .int .i64 c1))
  clear G1 hT1 hc1
  go_wp2_with fail
  clear k0 k1 kf q0 q1 q2 qf
  refine (RN1.out _).mono fun e w2 h => ?_
  obtain ⟨r, t2, T2, c2, hto, hT2, hc2, rfl, hbel⟩ := h.elim
  have R2 := Aside0.mk (hto.next R1.out)
  have OK2 := Aside0.mk hto.ok
  have RN2 := Aside0.mk (reftext_ok t2 hto.ok)
  simp only [srV, hT2, hc2] at RN2
  clear h hto RN1
  have G2 := Aside0.mk (H2.out.from_below hbel)
  clear hbel H2
  have k0 := G2.out.cellAt w.heap.size 0 (v := .string T1) rfl
  have k1 := G2.out.cellAt w.heap.size 1 (v := .int .i64 c1) rfl
  have kf := G2.out.freeAt w.heap.size
  have q0 := G2.out.cellAt (w.heap.size + 1 + 1 + 1) 0 (v := .string o) rfl
  have q1 := G2.out.cellAt (w.heap.size + 1 + 1 + 1) 1 (v := .string ⟨#[]⟩) rfl
  have q2 := G2.out.cellAt (w.heap.size + 1 + 1 + 1) 2 (v := .string ⟨#[]⟩) rfl
  have qf := G2.out.freeAt (w.heap.size + 1 + 1 + 1)
  have H3 := Aside0.mk (((G2.out.atB (w.heap.size + 1 + 1 + 1)).put31 (u := .string r)).atB w.heap.size |>.put2 (u := .string T2) (v := .int .i64 c2))
  clear G2 hT2 hc2
  go_wp2_with fail
  clear k0 k1 kf q0 q1 q2 qf
  refine (RN2.out _).mono fun e w3 h => ?_
  obtain ⟨u, t3, T3, c3, hto, hT3, hc3, rfl, hbel⟩ := h.elim
  have R3 := Aside0.mk (hto.next R2.out)
  have OK3 := Aside0.mk hto.ok
  clear h hto RN2
  have G3 := Aside0.mk (H3.out.from_below hbel)
  clear hbel H3
  have k0 := G3.out.cellAt w.heap.size 0 (v := .string T2) rfl
  have k1 := G3.out.cellAt w.heap.size 1 (v := .int .i64 c2) rfl
  have kf := G3.out.freeAt w.heap.size
  have q0 := G3.out.cellAt (w.heap.size + 1 + 1 + 1) 0 (v := .string o) rfl
  have q1 := G3.out.cellAt (w.heap.size + 1 + 1 + 1) 1 (v := .string r) rfl
  have q2 := G3.out.cellAt (w.heap.size + 1 + 1 + 1) 2 (v := .string ⟨#[]⟩) rfl
  have qf := G3.out.freeAt (w.heap.size + 1 + 1 + 1)
  have H4 := Aside0.mk (((G3.out.atB (w.heap.size + 1 + 1 + 1)).put32 (u := .string u)).atB w.heap.size |>.put2 (u := .string T3) (v := .int .i64 c3))
  have m0 := H4.out.drew.cellAt (w.heap.size + 1 + 1 + 1) 0 (v := .string o) rfl
  have m1 := H4.out.drew.cellAt (w.heap.size + 1 + 1 + 1) 1 (v := .string r) rfl
  have m2 := H4.out.drew.cellAt (w.heap.size + 1 + 1 + 1) 2 (v := .string u) rfl
  have j0 := H4.out.drew.cellAt w.heap.size 0 (v := .string T3) rfl
  have j1 := H4.out.drew.cellAt w.heap.size 1 (v := .int .i64 c3) rfl
  have z0 := G3.out.cellAt (w.heap.size + 1 + 1) 0 (v := .string ⟨#[]⟩) rfl
  have z1 := G3.out.cellAt (w.heap.size + 1 + 1) 1 (v := .int .i64 0) rfl
  have zf := G3.out.freeAt (w.heap.size + 1 + 1)
  have y0 := G3.out.cellAt (w.heap.size + 1) 0 (v := .string ⟨#[]⟩) rfl
  have y1 := G3.out.cellAt (w.heap.size + 1) 1 (v := .string ⟨#[]⟩) rfl
  have y2 := G3.out.cellAt (w.heap.size + 1) 2 (v := .string ⟨#[]⟩) rfl
  have yf := G3.out.freeAt (w.heap.size + 1)
  have G := Aside0.mk (((H4.out.atB (w.heap.size + 1)).put3 (u := .string o) (v := .string r) (q := .string u)).atB (w.heap.size + 1 + 1) |>.put2 (u := .string T3) (v := .int .i64 c3)).drew
  have TT := Aside0.mk (And.intro hT3 hc3)
  clear G3 hT3 hc3
  go_upto_region 5 with fail
  refine start_ (n := 4) (S := fun w' => w'.cell? ⟨w.heap.size + 1 + 1 + 1, 0, none⟩ = some (.string o) ∧ w'.cell? ⟨w.heap.size + 1 + 1 + 1, 1, none⟩ = some (.string r) ∧ w'.cell? ⟨w.heap.size + 1 + 1 + 1, 2, none⟩ = some (.string u) ∧ w'.cell? ⟨w.heap.size, 0, none⟩ = some (.string T3) ∧ w'.cell? ⟨w.heap.size, 1, none⟩ = some (.int .i64 c3)) (ds := [3]) #[false, false, false, false] (by kernel_rfl) rfl rfl ⟨m0, m1, m2, j0, j1⟩ (fun hHeld => ?_)
  refine take_ (i := 0) (N := some 24) (v := ?_) (a' := ?_) #[true, false, false, false] rfl rfl (by kernel_rfl) (fun _ _ _ h => h) (Or.inl ⟨by rfl, ?_⟩) hHeld ?_ ?_
  rotate_left
  · rintro w' ⟨s0, s1, s2, s3, s4⟩
    go_simp
    with_reducible rfl
  rotate_left
  · simp only [Act.put, List.setIfInBounds_toArray, List.set_cons_zero, List.set_cons_succ, i64_w, i32_w]
    rfl
  refine take_ (i := 1) (N := some 25) (v := ?_) (a' := ?_) #[true, true, false, false] rfl rfl (by kernel_rfl) (fun _ _ _ h => h) (Or.inl ⟨by rfl, ?_⟩) hHeld ?_ ?_
  rotate_left
  · rintro w' ⟨s0, s1, s2, s3, s4⟩
    go_simp
    with_reducible rfl
  rotate_left
  · simp only [Act.put, List.setIfInBounds_toArray, List.set_cons_zero, List.set_cons_succ, i64_w, i32_w]
    rfl
  refine one_ (i := 2) (N := none) #[true, true, true, false] rfl rfl (by kernel_rfl) (by decide) (fun K hK => ?_)
  refine skip_ (w1 := ?_) (by rfl) rfl ?_ ?_
  rotate_left
  · go_simp
    rfl
  have X := Aside0.mk ((H4.out.atB (w.heap.size + 1)).put3 (u := .string o) (v := .string r) (q := .string u)).drew
  have x0 := X.out.cellAt (w.heap.size + 1 + 1 + 1) 0 (v := .string o) rfl
  have x1 := X.out.cellAt (w.heap.size + 1 + 1 + 1) 1 (v := .string r) rfl
  have x2 := X.out.cellAt (w.heap.size + 1 + 1 + 1) 2 (v := .string u) rfl
  have x3 := X.out.cellAt w.heap.size 0 (v := .string T3) rfl
  have x4 := X.out.cellAt w.heap.size 1 (v := .int .i64 c3) rfl
  refine hK.out _ _ ⟨x0, x1, x2, x3, x4⟩ (fun hHeld => ?_)
  clear hK K
  clear X x0 x1 x2 x3 x4 m0 m1 m2 j0 j1 y0 y1 y2 yf k0 k1 kf q0 q1 q2 qf
  refine last_skip_ (w1 := ?_) (i := 3) #[true, true, true, true] rfl rfl (by kernel_rfl) (by decide) (by rfl) ?_ ?_
  rotate_left
  · go_simp
    rfl
  refine done_ (by kernel_rfl) ?_
  clear hHeld H4 z0 z1 zf
  go_wp2_with fail
  have y0 := G.out.cellAt (w.heap.size + 1) 0 (v := .string o) rfl
  have y1 := G.out.cellAt (w.heap.size + 1) 1 (v := .string r) rfl
  have y2 := G.out.cellAt (w.heap.size + 1) 2 (v := .string u) rfl
  have z0 := G.out.cellAt (w.heap.size + 1 + 1) 0 (v := .string T3) rfl
  have z1 := G.out.cellAt (w.heap.size + 1 + 1) 1 (v := .int .i64 c3) rfl
  exact bodyPost_ret (v := .tuple #[.agg #[.string o, .string r, .string u], .agg #[.string T3, .int .i64 c3]]) (by simp [results, Try.results79, go_sem, y0, y1, y2, z0, z1]) rfl (.mk (o, r, u) t3 (.last R3.out OK3.out trivial) (by rw [← TT.out.1, ← TT.out.2]) G.out.below)
end Go.Proofs.Ytckdkbjobipniaa
