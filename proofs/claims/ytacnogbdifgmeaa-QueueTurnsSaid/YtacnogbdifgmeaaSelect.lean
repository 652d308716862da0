/- A select of one case with a default, in one goroutine, as a region of the walk: out of the walk's own meaning; a channel as owned memory. -/
import Derived.Test.YtacnogbdifgmeaaSepTwo
import Derived.LaidEqlPtr
import Derived.Conc.LoneSelect
import Derived.Conc.LoneSelectN
set_option linter.unusedVariables false
set_option linter.unusedSimpArgs false
namespace Go.Proofs.Ytacnogbdifgmeaa
open Go.RowKit Go.Conc Go.Proofs.YtacnogbdifgmeaaW.PrintWords

section
variable {P : Program} {id : Nat} {ops : Array Oper} {l : List Oper} {o : Oper} {a : Act} {Q : Exit → Act → World → Prop} {w w0 : World}
theorem stepG_comm_any {b : Frame} {k : List Item} {cs : List Frame} {i : Nat} {rest : List Nat} {cases : Array CommCase} {blocking : Bool} {shape : CommShape} {w' : World} (ho : ops[i]? = some o) (hw : Region.wanted o (yielded ops a.tmps) = true)
    (hr : (execOp a.eval o).run P w = .ok (.comm cases blocking shape) w') :
    ∃ es, stepG P true (G (b.at a (.inRegion ops (i :: rest) :: k)) cs) w = .comm (G (b.at a (.inRegion ops (i :: rest) :: k)) cs) cases blocking shape w' es := by
  have h := stepG_op (P := P) (b := b) (k := k) (cs := cs) (w := w) (rest := rest) ho hw
  have e : G (b.at a (.inRegion ops (i :: rest) :: k)) cs = { frame := b.at a (.inRegion ops (i :: rest) :: k), callers := cs, status := .running, dying := none } := rfl
  rw [e, h]
  simp only [stepG.apply, if_true, Sem.runT_eq, hr]
  exact ⟨_, rfl⟩
theorem wp_sel (hops : ops = (o :: l).toArray) (hg : o.guard = none) {cases : Array CommCase} {w1 w' : World} {v : Value} (hrun : (execOp a.eval o).run P w = .ok (.comm cases false .select) w1)
    (hstep : ∀ fr cs es, stepG P true (G fr cs) w = .comm (G fr cs) cases false .select w1 es → step P (solo (G fr cs) w) = .next (solo (G (fr.finish v) cs) w'))
    (h : wpList P ops Q l (a.put o.dst v) w') : (Code.region id ops false).wp P Q a w := by
  intro b k cs
  have e : wpOps P ops Q (List.range' 1 l.length) = wpList P ops Q l := wpOps_eq_wpList l 1 (fun j => by subst hops; simp [Nat.add_comm 1 j])
  rw [← e] at h
  obtain ⟨ex, a', w'', hq, harr⟩ := wp_ops _ _ _ h b k cs
  refine ⟨ex, a', w'', hq, .of_steps (.head step_region (.one ?_)) harr⟩
  have hrange : List.range ops.size = 0 :: List.range' 1 l.length := by subst hops; simp [List.range_eq_range', List.range'_succ]
  rw [hrange]
  have ho : ops[0]? = some o := by subst hops; simp
  obtain ⟨es, hc⟩ := stepG_comm_any (P := P) (b := b) (k := k) (cs := cs) (w := w) (rest := List.range' 1 l.length) ho (by simp [Region.wanted, hg]) hrun
  have hs := hstep _ _ _ hc
  rw [Frame.finish_at, ho] at hs
  exact hs
end

/-- A channel of one's own: what lies in it. -/
def chn {α : Type} (enc : α → Value) (c cap : Nat) (xs : List α) : HP := HP.ex fun p : Nat × Nat => blk c (.chan cap (xs.map enc).toArray false p.1 p.2 false)
section
variable {P : Program} {id : Nat} {ops : Array Oper} {l : List Oper} {o : Oper} {a : Act} {Q : Exit → Act → World → Prop} {w w0 : World} {F : HP} {α : Type} {enc : α → Value} {c cap : Nat} {xs : List α}
theorem chn_turn {s r s' r' : Nat} {buf buf' : Array Value} (h : Hw w0 w (blk c (.chan cap buf false s r false) * F)) : Hw w0 (w.setChan c cap buf' false s' r' false) (blk c (.chan cap buf' false s' r' false) * F) :=
  h.turn rfl rfl rfl (by simp [World.setChan]) (fun i hi hne => by simp only [World.setChan]; rw [Array.getElem?_setIfInBounds_ne (by omega)]) (heap_setChan w c cap buf' false s' r' false h.lt)
theorem chn_at (h : Hw w0 w (chn enc c cap xs * F)) : ∃ s r, w.heap[c]? = some (.chan cap (xs.map enc).toArray false s r false) ∧ Hw w0 w (blk c (.chan cap (xs.map enc).toArray false s r false) * F) := by
  obtain ⟨⟨s, r⟩, h⟩ := Hw.ex_mul.1 h
  exact ⟨s, r, h.blk_at.1, h⟩
theorem chn_mk {s r : Nat} (h : Hw w0 w (blk c (.chan cap (xs.map enc).toArray false s r false) * F)) : Hw w0 w (chn enc c cap xs * F) := Hw.ex_mul.2 ⟨(s, r), h⟩
theorem chn_new (h : Hw w0 w F) : Hw w0 (w.alloc (.chan cap #[] false 0 0 false)) (chn enc w.heap.size cap [] * F) := chn_mk (h.alloc _)
theorem chn_len {t ty : TypeId} {dir : ChanDir} {e : TypeId} (ht : P.underlying t = some (.chan dir e)) (h : Hw w0 w (chn enc c cap xs * F)) : (Builtin.len_ #[t] ty #[.chan (some c)]).run P w = .ok (.int .i64 xs.length) w := by
  obtain ⟨s, r, hc, _⟩ := chn_at h
  rw [run_len_chan t ty ht hc]
  simp [goInt]
theorem chn_cap {t ty : TypeId} {dir : ChanDir} {e : TypeId} (ht : P.underlying t = some (.chan dir e)) (h : Hw w0 w (chn enc c cap xs * F)) : (Builtin.cap_ #[t] ty #[.chan (some c)]).run P w = .ok (.int .i64 cap) w := by
  obtain ⟨s, r, hc, _⟩ := chn_at h
  rw [run_cap_chan t ty ht hc]
  simp [goInt]
theorem sel_run_send {x y : Operand} {e : TypeId} {v : Value} {z : Value} (ho : o.op = .select #[{ chan := x, send := some y, elem := e }] false) (hx : a.eval x = .chan (some c)) (hy : a.eval y = v) (hz : (zeroValue e).run P w = .ok z w) :
    (execOp a.eval o).run P w = .ok (.comm #[scase c v z] false .select) w := by
  generalize a.eval = ev at hx hy ⊢
  simp [go_sem, execOp, ho, hx, hy, hz, scase]
theorem sel_run_recv {x : Operand} {e : TypeId} {z : Value} (ho : o.op = .select #[{ chan := x, send := none, elem := e }] false) (hx : a.eval x = .chan (some c)) (hz : (zeroValue e).run P w = .ok z w) :
    (execOp a.eval o).run P w = .ok (.comm #[rcase c z] false .select) w := by
  generalize a.eval = ev at hx ⊢
  simp [go_sem, execOp, ho, hx, hz, rcase]
/-- A send with room. -/
theorem sel_put {x y : Operand} {e : TypeId} {z : Value} (v : α) (h : Hw w0 w (chn enc c cap xs * F)) (hroom : xs.length < cap) (hops : ops = (o :: l).toArray) (hg : o.guard = none) (ho : o.op = .select #[{ chan := x, send := some y, elem := e }] false) (hx : a.eval x = .chan (some c)) (hy : a.eval y = enc v)
    (hz : (zeroValue e).run P w = .ok z w) (K : ∀ w', Aside0 (Hw w0 w' (chn enc c cap (xs ++ [v]) * F)) → wpList P ops Q l (a.put o.dst (.tuple #[.int .i64 0, .bool false])) w') : (Code.region id ops false).wp P Q a w := by
  obtain ⟨s, r, hc, hb⟩ := chn_at h
  refine wp_sel hops hg (sel_run_send ho hx hy hz) (fun fr cs es hs => step_lone_select_send_room hs hc (by simpa using hroom)) (K _ ⟨chn_mk (s := s + 1) (r := r) ?_⟩)
  have := chn_turn (buf' := ((xs.map enc).toArray.push (enc v))) (s' := s + 1) (r' := r) hb
  simpa using this
/-- A send without room. -/
theorem sel_full {x y : Operand} {e : TypeId} {z : Value} (v : α) (h : Hw w0 w (chn enc c cap xs * F)) (hroom : cap ≤ xs.length) (hops : ops = (o :: l).toArray) (hg : o.guard = none) (ho : o.op = .select #[{ chan := x, send := some y, elem := e }] false) (hx : a.eval x = .chan (some c)) (hy : a.eval y = enc v)
    (hz : (zeroValue e).run P w = .ok z w) (K : wpList P ops Q l (a.put o.dst (.tuple #[.int .i64 (-1), .bool false])) w) : (Code.region id ops false).wp P Q a w := by
  obtain ⟨s, r, hc, hb⟩ := chn_at h
  exact wp_sel hops hg (sel_run_send ho hx hy hz) (fun fr cs es hs => step_lone_select_send_full hs hc (by simpa using hroom)) K
/-- A receive of what lies there. -/
theorem sel_take {x : Operand} {e : TypeId} {z : Value} {v : α} {r : List α} (h : Hw w0 w (chn enc c cap (v :: r) * F)) (hops : ops = (o :: l).toArray) (hg : o.guard = none) (ho : o.op = .select #[{ chan := x, send := none, elem := e }] false) (hx : a.eval x = .chan (some c))
    (hz : (zeroValue e).run P w = .ok z w) (K : ∀ w', Aside0 (Hw w0 w' (chn enc c cap r * F)) → wpList P ops Q l (a.put o.dst (.tuple #[.int .i64 0, .bool true, enc v])) w') : (Code.region id ops false).wp P Q a w := by
  obtain ⟨s, q, hc, hb⟩ := chn_at h
  have hgd : (((v :: r).map enc).toArray).getD 0 undef = enc v := by simp [Array.getD]
  refine wp_sel hops hg (sel_run_recv ho hx hz) (fun fr cs es hs => by
    have := step_lone_select_recv_buf hs hc (by simp)
    rw [hgd] at this
    exact this) (K _ ⟨chn_mk (s := s) (r := q + 1) ?_⟩)
  have := chn_turn (buf' := ((((v :: r).map enc).toArray).extract 1 (((v :: r).map enc).toArray).size)) (s' := s) (r' := q + 1) hb
  have e1 : (r.map enc).take r.length = r.map enc := List.take_of_length_le (by simp)
  simpa [e1] using this
/-- A receive where nothing lies. -/
theorem sel_none {x : Operand} {e : TypeId} {z : Value} (h : Hw w0 w (chn enc c cap [] * F)) (hops : ops = (o :: l).toArray) (hg : o.guard = none) (ho : o.op = .select #[{ chan := x, send := none, elem := e }] false) (hx : a.eval x = .chan (some c))
    (hz : (zeroValue e).run P w = .ok z w) (K : wpList P ops Q l (a.put o.dst (.tuple #[.int .i64 (-1), .bool false, z])) w) : (Code.region id ops false).wp P Q a w := by
  obtain ⟨s, r, hc, hb⟩ := chn_at h
  exact wp_sel hops hg (sel_run_recv ho hx hz) (fun fr cs es hs => step_lone_select_default hs (by simpa using hc)) K
end
theorem run_neq_ptr_other {P : Program} {w : World} {tp te : TypeId} {a b : Addr} {ca cb : Array Value} {ta tb : TypeId} (hp : P.underlying tp = some (.pointer te)) (hsz : ∃ j, P.info? te = some j ∧ j.size ≠ 0)
    (hne : a ≠ b) (ha : w.heap[a.block]? = some (.cells ca ta (0, 0))) (hb : w.heap[b.block]? = some (.cells cb tb (0, 0))) :
    (binOp .neq tp (.pointer (some a)) (.pointer (some b))).run P w = .ok (.bool true) w := by
  obtain ⟨j, hte, hsz⟩ := hsz
  have h : ∀ d : Nat, (Op.equalIn (d + 1) tp (.pointer (some a)) (.pointer (some b))).run P w = .ok false w := fun d => by
    simp [Op.equalIn, run_underlying hp, sizeOf, typeInfo, hte, hsz, run_sameAddr_other w hne ha hb]
  simp only [binOp]
  simp [Op.equal, Op.maxDepth, h 9999]
/-- Two blocks that are owned side by side are two. -/
theorem Hw.ne {w0 w : World} {p q : Nat} {o o' : Obj} {F : HP} (h : Hw w0 w (blk p o * (blk q o' * F))) : p ≠ q := by
  obtain ⟨_, x, ⟨h1, h2, hd, hj, hp, h3, h4, hd2, hj2, hp2, _⟩, _⟩ := h
  intro e
  subst e
  have e1 := hp p
  have e2 := hp2 p
  have e3 := hj2 p
  simp only [if_true] at e1 e2
  rw [e2] at e3
  rcases hd p with e | e
  · rw [e] at e1; cases e1
  · rw [e] at e3; simp at e3
end Go.Proofs.Ytacnogbdifgmeaa
