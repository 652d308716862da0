/- The source: tuples and the closures that read one thing. -/
import Derived.Test.YtloiclalcepbeaaCodeR
set_option linter.unusedVariables false
set_option linter.unusedSimpArgs false
namespace Go.Proofs.Ytloiclalcepbeaa
open Go.RowKit Go.Proofs.YtloiclalcepbeaaW.PrintWords Go.Proofs.YtloiclalcepbeaaW.PrintLast
/-- A call in a region that draws, which may give up. -/
theorem goesP_ {P : Program} {ops : Array Oper} {Q : Exit → Act → World → Prop} {oi : Oper} {N : Option Tmp} {a : Act} {w : World} {K : Act → World → Prop} {f : FuncId} {fn : Func} {as' : Array Operand} {ts : Array TypeId} (hf : P.funcs[f]? = some fn) (hname : (fn.name == "runtime.NumGoroutine") = false) (hb : fn.body.isSome = true) (args : Array Value)
    (hw : Region.wanted oi (yielded ops a.tmps) = true) (hN : oi.dst = N) (hop : oi.op = .call { callee := .value (.func f), args := as', argTypes := ts }) (hargs : as'.map a.eval = args)
    (h : Calls P f args w fun e w' => (∃ v, e = .returned v ∧ K (a.put N v) w') ∨ (∃ ch, e = .panicked ch ∧ Q (.panic ch) a w')) : if Region.wanted oi (yielded ops a.tmps) = true then Oper.wp P oi a w K Q else K (a.put N undef) w := by
  have he := enters_ hf hname hb args w
  have hrun : (execOp a.eval oi).run P w = .ok (.enter f args) w := by
    unfold execOp
    simp [hop, resolve, Deferred.ofValue, invoke, Act.eval, hargs, he]
  rw [if_pos hw]
  subst hN
  unfold Oper.wp
  rw [hrun, Oper.upon_enter]
  refine h.mono fun e w'' hh => ?_
  rcases hh with ⟨v, rfl, hk⟩ | ⟨ch, rfl, hk⟩
  · exact hk
  · exact hk
/-- One reading behind another. -/
def Rd.bind {α β : Type} (r : Rd α) (f : α → List Int → Rd β) : Rd β := match r with
  | .error e => .error e
  | .ok (a, ys) => f a ys
theorem Rd.bind_ok {α β : Type} {r : Rd α} {a : α} {ys : List Int} (h : r = .ok (a, ys)) (f : α → List Int → Rd β) : r.bind f = f a ys := by rw [h]; rfl
theorem Rd.bind_err {α β : Type} {r : Rd α} {c : Int} (h : r = .error c) (f : α → List Int → Rd β) : r.bind f = .error c := by rw [h]; rfl
def rTup (xs : List Int) : Rd Tup := (rText xs).bind fun o ys => (rText ys).bind fun r zs => (rText zs).bind fun u vs => .ok ((o, r, u), vs)
def rMut (xs : List Int) : Rd Mut := (rFlag xs).bind fun f ys => (rTup ys).bind fun t zs => .ok ((f, t), zs)
def rRow (xs : List Int) : Rd Rw := (rTup xs).bind fun t ys => (rInt ys).bind fun s zs => (rInt zs).bind fun u vs => .ok ((t, s, u), vs)
abbrev scapP (b p : Nat) : HP := blk b (.cells #[.pointer (some ⟨p, 0, none⟩)] 94)
section
variable {w0 w : World} {F : HP} {p b : Nat} {xs : List Int}
theorem src_in {A R : HP} (h : Hw w0 w (A * (srcP w0 p xs * R))) : Hw w0 w (srcP w0 p xs * (A * R)) := h.as (HP.left_comm _ _ _)
set_option maxHeartbeats 800000 in
theorem rtup_ok (h : Hw w0 w (srcP w0 p xs * F)) :
    Calls Try.prog 68 #[.pointer (some ⟨p, 0, none⟩)] w (ReadPost w0 F p (rTup xs) tupV) := by
  have R := Aside0.mk (rtext_ok (src_in (h.alloc (.cells #[.string ⟨#[]⟩, .string ⟨#[]⟩, .string ⟨#[]⟩] 81))))
  have RT := Aside0.mk (show rTup xs = (rText xs).bind fun o ys => (rText ys).bind fun r zs => (rText zs).bind fun u vs => .ok ((o, r, u), vs) from rfl)
  clear h
  go_enter Try.func68, Try.ntmps68
  go_wp2_with fail
  refine R.out.mono ?_
  rintro e w1 (⟨o, ys, hr, rfl, g⟩ | ⟨c, ys, hr, hc, rfl, g⟩)
  · have R1 := Aside0.mk (RT.out.trans (Rd.bind_ok hr _))
    have R2 := Aside0.mk (rtext_ok g)
    clear g hr RT R
    go_wp2_with fail
    refine R2.out.mono ?_
    rintro e w2 (⟨r, zs, hr, rfl, g⟩ | ⟨c, ys', hr, hc, rfl, g⟩)
    · have R3 := Aside0.mk (R1.out.trans (Rd.bind_ok hr _))
      have R4 := Aside0.mk (rtext_ok g)
      clear g hr R1 R2
      go_wp2_with fail
      refine R4.out.mono ?_
      rintro e w3 (⟨u, vs, hr, rfl, g⟩ | ⟨c, ys', hr, hc, rfl, g⟩)
      · have R5 := Aside0.mk (R3.out.trans (Rd.bind_ok hr _))
        have G := Aside0.mk (g.atB w.heap.size)
        have k0 := G.out.cell (i := 0) (v := .string ⟨#[]⟩) rfl
        have k1 := G.out.cell (i := 1) (v := .string ⟨#[]⟩) rfl
        have k2 := G.out.cell (i := 2) (v := .string ⟨#[]⟩) rfl
        have kf := G.out.unfrozen
        have G2 := Aside0.mk (((G.out.set 0 (.string o)).set 1 (.string r)).set 2 (.string u))
        clear g hr R3 R4
        go_wp2_with fail
        have z0 := G2.out.cell (i := 0) (v := .string o) rfl
        have z1 := G2.out.cell (i := 1) (v := .string r) rfl
        have z2 := G2.out.cell (i := 2) (v := .string u) rfl
        refine bodyPost_ret (v := .agg #[.string o, .string r, .string u]) (by simp [results, Try.results68, go_sem, z0, z1, z2]) rfl (.inl ⟨(o, r, u), vs, R5.out, rfl, ?_⟩)
        exact G2.out.right
      · exact ⟨rfl, .inr ⟨c, ys', R3.out.trans (Rd.bind_err hr _), hc, rfl, g.dropB w.heap.size⟩⟩
    · exact ⟨rfl, .inr ⟨c, ys', R1.out.trans (Rd.bind_err hr _), hc, rfl, g.dropB w.heap.size⟩⟩
  · exact ⟨rfl, .inr ⟨c, ys, RT.out.trans (Rd.bind_err hr _), hc, rfl, g.dropB w.heap.size⟩⟩
set_option maxHeartbeats 800000 in
theorem r1_one (h : Hw w0 w (srcP w0 p xs * (scapP b p * F))) :
    Calls Try.prog 65 #[.pointer (some ⟨b, 0, none⟩)] w (ReadPost w0 (scapP b p * F) p (rInt xs) (Value.int .i64)) := by
  have R := Aside0.mk (rint_ok h)
  have q0 := h.cellAt b 0 (v := .pointer (some ⟨p, 0, none⟩)) rfl
  clear h
  go_enter Try.func65, Try.ntmps65
  go_wp2_with fail
  refine R.out.mono ?_
  rintro e w1 (⟨n, ys, hr, rfl, g⟩ | ⟨c, ys, hr, hc, rfl, g⟩)
  · have RE := Aside0.mk hr
    have G := Aside0.mk g
    clear g hr
    go_wp2_with fail
    go_ret
    exact .inl ⟨n, ys, RE.out, rfl, G.out⟩
  · exact ⟨rfl, .inr ⟨c, ys, hr, hc, rfl, g⟩⟩
set_option maxHeartbeats 800000 in
theorem r2_one (h : Hw w0 w (srcP w0 p xs * (scapP b p * F))) :
    Calls Try.prog 67 #[.pointer (some ⟨b, 0, none⟩)] w (ReadPost w0 (scapP b p * F) p (rMut xs) mutV) := by
  have H1 := Aside0.mk (src_in (h.alloc (.cells #[.bool false, .string ⟨#[]⟩, .string ⟨#[]⟩, .string ⟨#[]⟩] 83)))
  have R := Aside0.mk (rflag_ok H1.out)
  have RT := Aside0.mk (show rMut xs = (rFlag xs).bind fun f ys => (rTup ys).bind fun t zs => .ok ((f, t), zs) from rfl)
  have q0 := H1.out.cellAt b 0 (v := .pointer (some ⟨p, 0, none⟩)) rfl
  clear h
  go_enter Try.func67, Try.ntmps67
  go_wp2_with fail
  refine R.out.mono ?_
  rintro e w1 (⟨o, ys, hr, rfl, g⟩ | ⟨c, ys, hr, hc, rfl, g⟩)
  · have R1 := Aside0.mk (RT.out.trans (Rd.bind_ok hr _))
    have R2 := Aside0.mk (rtup_ok g)
    have q1 := g.cellAt b 0 (v := .pointer (some ⟨p, 0, none⟩)) rfl
    clear g hr RT R q0 H1
    go_wp2_with fail
    refine R2.out.mono ?_
    rintro e w2 (⟨⟨t1, t2, t3⟩, zs, hr, rfl, g⟩ | ⟨c, ys', hr, hc, rfl, g⟩)
    · have R5 := Aside0.mk (R1.out.trans (Rd.bind_ok hr _))
      have G := Aside0.mk (g.atB w.heap.size)
      have k0 := G.out.cell (i := 0) (v := .bool false) rfl
      have k1 := G.out.cell (i := 1) (v := .string ⟨#[]⟩) rfl
      have k2 := G.out.cell (i := 2) (v := .string ⟨#[]⟩) rfl
      have k3 := G.out.cell (i := 3) (v := .string ⟨#[]⟩) rfl
      have kf := G.out.unfrozen
      have G2 := Aside0.mk ((((G.out.set 0 (.bool o)).set 1 (.string t1)).set 2 (.string t2)).set 3 (.string t3))
      clear g hr R1 R2 q1
      go_wp2_with fail
      have z0 := G2.out.cell (i := 0) (v := .bool o) rfl
      have z1 := G2.out.cell (i := 1) (v := .string t1) rfl
      have z2 := G2.out.cell (i := 2) (v := .string t2) rfl
      have z3 := G2.out.cell (i := 3) (v := .string t3) rfl
      refine bodyPost_ret (v := .agg #[.bool o, .string t1, .string t2, .string t3]) (by simp [results, Try.results67, go_sem, z0, z1, z2, z3]) rfl (.inl ⟨(o, t1, t2, t3), zs, R5.out, rfl, ?_⟩)
      exact G2.out.right
    · exact ⟨rfl, .inr ⟨c, ys', R1.out.trans (Rd.bind_err hr _), hc, rfl, g.dropB w.heap.size⟩⟩
  · exact ⟨rfl, .inr ⟨c, ys, RT.out.trans (Rd.bind_err hr _), hc, rfl, g.dropB w.heap.size⟩⟩
set_option maxHeartbeats 800000 in
theorem r3_one (h : Hw w0 w (srcP w0 p xs * (scapP b p * F))) :
    Calls Try.prog 70 #[.pointer (some ⟨b, 0, none⟩)] w (ReadPost w0 (scapP b p * F) p (rMut xs) mutV) := by
  have H1 := Aside0.mk (src_in (h.alloc (.cells #[.bool false, .string ⟨#[]⟩, .string ⟨#[]⟩, .string ⟨#[]⟩] 91)))
  have R := Aside0.mk (rflag_ok H1.out)
  have RT := Aside0.mk (show rMut xs = (rFlag xs).bind fun f ys => (rTup ys).bind fun t zs => .ok ((f, t), zs) from rfl)
  have q0 := H1.out.cellAt b 0 (v := .pointer (some ⟨p, 0, none⟩)) rfl
  clear h
  go_enter Try.func70, Try.ntmps70
  go_wp2_with fail
  refine R.out.mono ?_
  rintro e w1 (⟨o, ys, hr, rfl, g⟩ | ⟨c, ys, hr, hc, rfl, g⟩)
  · have R1 := Aside0.mk (RT.out.trans (Rd.bind_ok hr _))
    have R2 := Aside0.mk (rtup_ok g)
    have q1 := g.cellAt b 0 (v := .pointer (some ⟨p, 0, none⟩)) rfl
    clear g hr RT R q0 H1
    go_wp2_with fail
    refine R2.out.mono ?_
    rintro e w2 (⟨⟨t1, t2, t3⟩, zs, hr, rfl, g⟩ | ⟨c, ys', hr, hc, rfl, g⟩)
    · have R5 := Aside0.mk (R1.out.trans (Rd.bind_ok hr _))
      have G := Aside0.mk (g.atB w.heap.size)
      have k0 := G.out.cell (i := 0) (v := .bool false) rfl
      have k1 := G.out.cell (i := 1) (v := .string ⟨#[]⟩) rfl
      have k2 := G.out.cell (i := 2) (v := .string ⟨#[]⟩) rfl
      have k3 := G.out.cell (i := 3) (v := .string ⟨#[]⟩) rfl
      have kf := G.out.unfrozen
      have G2 := Aside0.mk ((((G.out.set 0 (.bool o)).set 1 (.string t1)).set 2 (.string t2)).set 3 (.string t3))
      clear g hr R1 R2 q1
      go_wp2_with fail
      have z0 := G2.out.cell (i := 0) (v := .bool o) rfl
      have z1 := G2.out.cell (i := 1) (v := .string t1) rfl
      have z2 := G2.out.cell (i := 2) (v := .string t2) rfl
      have z3 := G2.out.cell (i := 3) (v := .string t3) rfl
      refine bodyPost_ret (v := .agg #[.bool o, .string t1, .string t2, .string t3]) (by simp [results, Try.results70, go_sem, z0, z1, z2, z3]) rfl (.inl ⟨(o, t1, t2, t3), zs, R5.out, rfl, ?_⟩)
      exact G2.out.right
    · exact ⟨rfl, .inr ⟨c, ys', R1.out.trans (Rd.bind_err hr _), hc, rfl, g.dropB w.heap.size⟩⟩
  · exact ⟨rfl, .inr ⟨c, ys, RT.out.trans (Rd.bind_err hr _), hc, rfl, g.dropB w.heap.size⟩⟩
set_option maxHeartbeats 1600000 in
set_option maxRecDepth 100000 in
theorem r4_one (h : Hw w0 w (srcP w0 p xs * (scapP b p * F))) :
    Calls Try.prog 72 #[.pointer (some ⟨b, 0, none⟩)] w (ReadPost w0 (scapP b p * F) p (rRow xs) rowV) := by
  have H1 := Aside0.mk (src_in (h.alloc (.cells #[.string ⟨#[]⟩, .string ⟨#[]⟩, .string ⟨#[]⟩, .int .i64 0, .int .i64 0] 93)))
  have R := Aside0.mk (rtup_ok H1.out)
  have RT := Aside0.mk (show rRow xs = (rTup xs).bind fun t ys => (rInt ys).bind fun s zs => (rInt zs).bind fun u vs => .ok ((t, s, u), vs) from rfl)
  have q0 := H1.out.cellAt b 0 (v := .pointer (some ⟨p, 0, none⟩)) rfl
  clear h
  go_enter Try.func72, Try.ntmps72
  go_wp2_with fail
  refine R.out.mono ?_
  rintro e w1 (⟨⟨t1, t2, t3⟩, ys, hr, rfl, g⟩ | ⟨c, ys, hr, hc, rfl, g⟩)
  · have R1 := Aside0.mk (RT.out.trans (Rd.bind_ok hr _))
    have H2 := Aside0.mk (src_in (g.alloc (.cells #[.string t1, .string t2, .string t3] 81)))
    have R2 := Aside0.mk (rint_ok H2.out)
    have q1 := H2.out.cellAt b 0 (v := .pointer (some ⟨p, 0, none⟩)) rfl
    clear g hr RT R q0 H1
    go_wp2_with fail
    refine R2.out.mono ?_
    rintro e w2 (⟨s, zs, hr, rfl, g⟩ | ⟨c, ys', hr, hc, rfl, g⟩)
    · have R3 := Aside0.mk (R1.out.trans (Rd.bind_ok hr _))
      have R4 := Aside0.mk (rint_ok g.drew)
      have q2 := g.cellAt b 0 (v := .pointer (some ⟨p, 0, none⟩)) rfl
      have u0 := g.cellAt w1.heap.size 0 (v := .string t1) rfl
      have u1 := g.cellAt w1.heap.size 1 (v := .string t2) rfl
      have u2 := g.cellAt w1.heap.size 2 (v := .string t3) rfl
      clear g hr R1 R2 q1 H2
      go_wp2_with fail
      refine start_ (n := 6) (S := fun w' => w'.cell? ⟨w1.heap.size, 0, none⟩ = some (.string t1) ∧ w'.cell? ⟨w1.heap.size, 1, none⟩ = some (.string t2) ∧ w'.cell? ⟨w1.heap.size, 2, none⟩ = some (.string t3) ∧ w'.cell? ⟨b, 0, none⟩ = some (.pointer (some ⟨p, 0, none⟩))) (ds := [5]) #[false, false, false, false, false, false] (by kernel_rfl) rfl rfl ⟨u0, u1, u2, q2⟩ (fun hHeld => ?_)
      refine pure_ (i := 1) (N := some 9) (v := ?_) (a' := ?_) #[false, true, false, false, false, false] rfl rfl (by kernel_rfl) (fun _ _ _ h => h) (Or.inl ⟨by rfl, ?_⟩) ?_ ?_
      rotate_left
      · intro w'
        go_simp
        with_reducible rfl
      rotate_left
      · simp only [Act.put, List.setIfInBounds_toArray, List.set_cons_zero, List.set_cons_succ, i64_w, i32_w]
        rfl
      refine take_ (i := 0) (N := some 8) (v := ?_) (a' := ?_) #[true, true, false, false, false, false] rfl rfl (by kernel_rfl) (fun _ _ _ h => h) (Or.inl ⟨by rfl, ?_⟩) hHeld ?_ ?_
      rotate_left
      · rintro w' ⟨s0, s1, s2, s3⟩
        go_simp
        with_reducible rfl
      rotate_left
      · simp only [Act.put, List.setIfInBounds_toArray, List.set_cons_zero, List.set_cons_succ, i64_w, i32_w]
        rfl
      refine take_ (i := 2) (N := some 10) (v := ?_) (a' := ?_) #[true, true, true, false, false, false] rfl rfl (by kernel_rfl) (fun _ _ _ h => h) (Or.inl ⟨by rfl, ?_⟩) hHeld ?_ ?_
      rotate_left
      · rintro w' ⟨s0, s1, s2, s3⟩
        go_simp
        with_reducible rfl
      rotate_left
      · simp only [Act.put, List.setIfInBounds_toArray, List.set_cons_zero, List.set_cons_succ, i64_w, i32_w]
        rfl
      refine one_ (i := 3) (N := some 11) #[true, true, true, true, false, false] rfl rfl (by kernel_rfl) (by decide) (fun K hK => ?_)
      refine goesP_ Try.func62 (by kernel_rfl) rfl #[.pointer (some ⟨p, 0, none⟩)] (by rfl) rfl rfl (by simp only [List.map_toArray, List.map_cons, List.map_nil]; rfl) ?_
      with_reducible refine (R4.out).mono ?_
      rintro e w3 (⟨u, vs, hr, rfl, g⟩ | ⟨c, ys', hr, hc, rfl, g⟩)
      rotate_left
      · refine .inr ⟨_, rfl, ?_⟩
        exact ⟨rfl, .inr ⟨c, ys', R3.out.trans (Rd.bind_err hr _), hc, rfl, (g.dropB w1.heap.size).dropB w.heap.size⟩⟩
      refine .inl ⟨_, rfl, ?_⟩
      have R5 := Aside0.mk (R3.out.trans (Rd.bind_ok hr _))
      have G := Aside0.mk (g.atB w.heap.size)
      have y0 := g.cellAt w1.heap.size 0 (v := .string t1) rfl
      have y1 := g.cellAt w1.heap.size 1 (v := .string t2) rfl
      have y2 := g.cellAt w1.heap.size 2 (v := .string t3) rfl
      have y3 := g.cellAt b 0 (v := .pointer (some ⟨p, 0, none⟩)) rfl
      have k0 := G.out.cell (i := 0) (v := .string ⟨#[]⟩) rfl
      have k1 := G.out.cell (i := 1) (v := .string ⟨#[]⟩) rfl
      have k2 := G.out.cell (i := 2) (v := .string ⟨#[]⟩) rfl
      have k3 := G.out.cell (i := 3) (v := .int .i64 0) rfl
      have k4 := G.out.cell (i := 4) (v := .int .i64 0) rfl
      have kf := G.out.unfrozen
      clear g hr R3 R4
      refine hK.out _ _ ⟨y0, y1, y2, y3⟩ (fun hHeld => ?_)
      clear hK K
      refine norm_ (a' := ?_) ?_ ?_
      rotate_left
      · show Act.put _ (some 11) _ = _
        simp only [Act.put, List.setIfInBounds_toArray, List.set_cons_zero, List.set_cons_succ, i64_w, i32_w]
        rfl
      refine pure_ (i := 4) (N := some 12) (v := ?_) (a' := ?_) #[true, true, true, true, true, false] rfl rfl (by kernel_rfl) (fun _ _ _ h => h) (Or.inl ⟨by rfl, ?_⟩) ?_ ?_
      rotate_left
      · intro w'
        go_simp
        with_reducible rfl
      rotate_left
      · simp only [Act.put, List.setIfInBounds_toArray, List.set_cons_zero, List.set_cons_succ, i64_w, i32_w]
        rfl
      refine last_ (i := 5) (N := none) #[true, true, true, true, true, true] rfl rfl (by kernel_rfl) (by decide) (fun K hK => ?_)
      refine skip_ (w1 := ?_) (by rfl) rfl ?_ ?_
      rotate_left
      · go_simp
        rfl
      refine hK.out _ _ ?_
      clear hK K
      refine done_ (by kernel_rfl) ?_
      have G2 := Aside0.mk (((((G.out.set 0 (.string t1)).set 1 (.string t2)).set 2 (.string t3)).set 3 (.int .i64 s)).set 4 (.int .i64 u))
      clear hHeld y0 y1 y2 y3 k0 k1 k2 k3 k4 kf
      go_wp2_with fail
      have z0 := G2.out.cell (i := 0) (v := .string t1) rfl
      have z1 := G2.out.cell (i := 1) (v := .string t2) rfl
      have z2 := G2.out.cell (i := 2) (v := .string t3) rfl
      have z3 := G2.out.cell (i := 3) (v := .int .i64 s) rfl
      have z4 := G2.out.cell (i := 4) (v := .int .i64 u) rfl
      refine bodyPost_ret (v := .agg #[.string t1, .string t2, .string t3, .int .i64 s, .int .i64 u]) (by simp [results, Try.results72, go_sem, z0, z1, z2, z3, z4]) rfl (.inl ⟨((t1, t2, t3), s, u), vs, R5.out, rfl, ?_⟩)
      exact G2.out.right.dropB w1.heap.size
    · exact ⟨rfl, .inr ⟨c, ys', R1.out.trans (Rd.bind_err hr _), hc, rfl, (g.dropB w1.heap.size).dropB w.heap.size⟩⟩
  · exact ⟨rfl, .inr ⟨c, ys, RT.out.trans (Rd.bind_err hr _), hc, rfl, g.dropB w.heap.size⟩⟩
end
end Go.Proofs.Ytloiclalcepbeaa
