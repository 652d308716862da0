/- What is owned, by its name: a part is found in the whole wherever it stands. -/
import Derived.Test.YtenblkbieaadnaaRowsHP
set_option linter.unusedVariables false
set_option linter.unusedSimpArgs false
namespace Go.Proofs.Ytenblkbieaadnaa
open Go.RowKit Go.Proofs.YtenblkbieaadnaaW.PrintWords

theorem HP.left_comm (P Q R : HP) : P * (Q * R) = Q * (P * R) := by ac_rfl
theorem HP.right_comm (P Q R : HP) : P * Q * R = P * R * Q := by ac_rfl
/-- Q is P, and R beside it. -/
class Has (P Q : HP) (R : outParam HP) : Prop where
  eq : Q = P * R
instance (priority := low) Has.left {P Q Q' R : HP} [h : Has P Q Q'] : Has P (Q * R) (Q' * R) := ⟨by rw [h.eq, HP.assoc]⟩
instance Has.there {P Q R R' : HP} [h : Has P R R'] : Has P (Q * R) (Q * R') := ⟨by rw [h.eq, HP.left_comm]⟩
instance Has.self {P : HP} : Has P P HP.emp := ⟨(HP.mul_emp P).symm⟩
instance Has.here {P R : HP} : Has P (P * R) R := ⟨rfl⟩
/-- Q is block b, and R beside it. -/
class HasBlk (b : Nat) (Q : HP) (o : outParam Obj) (R : outParam HP) : Prop where
  eq : Q = blk b o * R
instance (priority := low) HasBlk.left {b : Nat} {Q Q' R : HP} {o : Obj} [h : HasBlk b Q o Q'] : HasBlk b (Q * R) o (Q' * R) := ⟨by rw [h.eq, HP.assoc]⟩
instance HasBlk.there {b : Nat} {Q R R' : HP} {o : Obj} [h : HasBlk b R o R'] : HasBlk b (Q * R) o (Q * R') := ⟨by rw [h.eq, HP.left_comm]⟩
instance HasBlk.self {b : Nat} {o : Obj} : HasBlk b (blk b o) o HP.emp := ⟨(HP.mul_emp _).symm⟩
instance HasBlk.here {b : Nat} {o : Obj} {R : HP} : HasBlk b (blk b o * R) o R := ⟨rfl⟩
/-- Q is a row with the head v, and R beside it. -/
class HasRow {α : Type} (d : Kd α) (e : Nat) (v : Value) (Q : HP) (xs : outParam (List α)) (R : outParam HP) : Prop where
  eq : Q = row d e v xs * R
instance (priority := low) HasRow.left {α : Type} {d : Kd α} {e : Nat} {v : Value} {xs : List α} {Q Q' R : HP} [h : HasRow d e v Q xs Q'] : HasRow d e v (Q * R) xs (Q' * R) := ⟨by rw [h.eq, HP.assoc]⟩
instance HasRow.there {α : Type} {d : Kd α} {e : Nat} {v : Value} {xs : List α} {Q R R' : HP} [h : HasRow d e v R xs R'] : HasRow d e v (Q * R) xs (Q * R') := ⟨by rw [h.eq, HP.left_comm]⟩
instance HasRow.self {α : Type} {d : Kd α} {e : Nat} {v : Value} {xs : List α} : HasRow d e v (row d e v xs) xs HP.emp := ⟨(HP.mul_emp _).symm⟩
instance HasRow.here {α : Type} {d : Kd α} {e : Nat} {v : Value} {xs : List α} {R : HP} : HasRow d e v (row d e v xs * R) xs R := ⟨rfl⟩

/-- The cell i of a block. -/
def cellOf (o : Obj) (i : Nat) : Option Value := match o with
  | .cells c _ _ => c[i]?
  | _ => none
section
variable {w0 w : World} {Q R : HP}
theorem Hw.at (h : Hw w0 w Q) (P : HP) {R : HP} [i : Has P Q R] : Hw w0 w (P * R) := h.as i.eq
theorem Hw.drop (h : Hw w0 w Q) (P : HP) {R : HP} [i : Has P Q R] : Hw w0 w R := (h.as i.eq).right
theorem Hw.only (h : Hw w0 w Q) (P : HP) {R : HP} [i : Has P Q R] : Hw w0 w P := (h.as i.eq).left
theorem Hw.atB (h : Hw w0 w Q) (b : Nat) {o : Obj} {R : HP} [i : HasBlk b Q o R] : Hw w0 w (blk b o * R) := h.as i.eq
theorem Hw.dropB (h : Hw w0 w Q) (b : Nat) {o : Obj} {R : HP} [i : HasBlk b Q o R] : Hw w0 w R := (h.as i.eq).right
theorem Hw.atR {α : Type} (h : Hw w0 w Q) (d : Kd α) (e : Nat) (v : Value) {xs : List α} {R : HP} [i : HasRow d e v Q xs R] : Hw w0 w (row d e v xs * R) := h.as i.eq
theorem Hw.dropR {α : Type} (h : Hw w0 w Q) (d : Kd α) (e : Nat) (v : Value) {xs : List α} {R : HP} [i : HasRow d e v Q xs R] : Hw w0 w R := (h.as i.eq).right
theorem Hw.cellAt (h : Hw w0 w Q) (b i : Nat) {o : Obj} {R : HP} [hb : HasBlk b Q o R] {v : Value} (hv : cellOf o i = some v) : w.cell? ⟨b, i, none⟩ = some v := by
  have h1 := (h.as hb.eq).blk_at.1
  cases o <;> simp [cellOf] at hv
  simp [World.cell?, h1, hv]
theorem Hw.freeAt (h : Hw w0 w Q) (b : Nat) {c : Array Value} {e : TypeId} {R : HP} [hb : HasBlk b Q (.cells c e (0, 0)) R] : ∀ i, w.frozen? ⟨b, i, none⟩ = false := fun i => (h.as hb.eq).unfrozen i
theorem Hw.setAt (h : Hw w0 w Q) (b i : Nat) (v : Value) {c : Array Value} {e : TypeId} {fz : Nat × Nat} {R : HP} [hb : HasBlk b Q (.cells c e fz) R] : Hw w0 (w.setCell ⟨b, i, none⟩ v) (blk b (.cells (c.setIfInBounds i v) e fz) * R) := (h.as hb.eq).set i v
theorem Hw.ltB (h : Hw w0 w Q) (b : Nat) {o : Obj} {R : HP} [hb : HasBlk b Q o R] : b < w.heap.size := (h.as hb.eq).lt
theorem Hw.readsR {α : Type} (h : Hw w0 w Q) (d : Kd α) (e : Nat) (v : Value) {xs : List α} {R : HP} [i : HasRow d e v Q xs R] : ∃ A c, v = .slice A xs.length c ∧ xs.length ≤ c ∧ d.C w A xs.length xs := (h.as i.eq).row_reads
end
theorem Ent.of_old {α : Type} {d : Kd α} {w0 : World} {F : HP} {A : Option Addr} {n : Nat} {xs : List α} (h : d.C w0 A n xs) : Ent w0 F (fun w => d.C w A n xs) := fun w hw => Kd.C_below h hw.below
theorem Ent.of_row {α : Type} {d : Kd α} {e : Nat} {w0 : World} {F R : HP} {A : Option Addr} {n c : Nat} {xs : List α} [i : HasRow d e (.slice A n c) F xs R] : Ent w0 F (fun w => d.C w A n xs) := fun w hw => by
  obtain ⟨A', c', e1, _, hC⟩ := hw.readsR d e (.slice A n c)
  injection e1 with e1 e2 e3
  subst e1
  rw [e2]
  exact hC
theorem Ent.use {w0 w : World} {F : HP} {p : World → Prop} (h : Ent w0 F p) (hw : Hw w0 w F) : p w := h w hw
theorem C_len {α : Type} {d : Kd α} {w : World} {A : Option Addr} {n : Nat} {xs : List α} (h : d.C w A n xs) : n = xs.length := h.1.symm
theorem Ent.of_blk {α : Type} {enc : α → Value} {h1 : ∀ x, (enc x).oneCell' = true} {w0 : World} {F R : HP} {o : Obj} {E : TypeId} {fz : Nat × Nat} (b : Nat) [i : HasBlk b F o R] (xs : List α) (ho : o = .cells (xs.map enc).toArray E fz) (n : Nat) (hn : n = xs.length) (hm : n ≤ 9223372036854775807) :
    Ent w0 F (fun w => (Kd.scalar enc h1).C w (some ⟨b, 0, none⟩) n xs) := fun w hw => by
  subst ho
  subst hn
  exact C_blk hm (hw.atB b).blk_at.1
theorem C_lit3 {α : Type} {d : Kd α} {e : Nat} {w : World} {g : Nat} {E : TypeId} {fz : Nat × Nat} {A B D : Option Addr} {n c m k p q : Nat} {x y z : List α} (h : w.heap[g]? = some (.cells #[.slice A n c, .slice B m k, .slice D p q] E fz)) (hn : n = x.length) (hl : n ≤ c) (hC : d.C w A n x) (hm : m = y.length) (hk : m ≤ k) (hD : d.C w B m y) (hp : p = z.length) (hq : p ≤ q) (hE : d.C w D p z) :
    (Kd.slice e d).C w (some ⟨g, 0, none⟩) ([x, y, z] : List (List α)).length [x, y, z] := by
  subst hn
  subst hm
  subst hp
  refine C_lit (vals := [Value.slice A x.length c, .slice B y.length k, .slice D z.length q]) (by simp) h (fun j p hj => ?_)
  match j, hj with
  | 0, hj => obtain rfl : x = p := by simpa using hj
             exact ⟨A, c, rfl, hl, hC⟩
  | 1, hj => obtain rfl : y = p := by simpa using hj
             exact ⟨B, k, rfl, hk, hD⟩
  | 2, hj => obtain rfl : z = p := by simpa using hj
             exact ⟨D, q, rfl, hq, hE⟩
  | j + 3, hj => simp at hj
theorem Ent.mul {w0 : World} {P F : HP} {p : World → Prop} (h : Ent w0 F p) : Ent w0 (P * F) p := fun w hw => h w hw.right
theorem Hw.row_C {α : Type} {d : Kd α} {e : Nat} {w0 w : World} {F : HP} {A : Option Addr} {n c : Nat} {xs : List α} (h : Hw w0 w (row d e (.slice A n c) xs * F)) : n = xs.length ∧ n ≤ c ∧ d.C w A n xs := by
  obtain ⟨A', c', e1, h2, h3⟩ := h.row_reads
  injection e1 with e1 e2 e3
  subst e1
  subst e3
  rw [e2]
  exact ⟨rfl, h2, h3⟩
theorem Ent.of_take {α : Type} {d : Kd α} {e : Nat} {w0 : World} {F R : HP} {A : Option Addr} {n c m : Nat} {xs ys zs : List α} [i : HasRow d e (.slice A n c) F xs R] (hz : xs = ys ++ zs) (hm : ys.length = m) : Ent w0 F (fun w => d.C w A m ys) := fun w hw => by
  have h := (hw.atR d e (.slice A n c)).row_C
  subst hz
  have h2 := h.2.2
  rw [h.1] at h2
  have h3 := Kd.C_take (m := m) h2 (by rw [List.length_append]; omega)
  rwa [List.take_left' hm, hm] at h3
/-! ### Slices that are cut -/
section
variable {α : Type} {P : Program}
theorem sl_take (d : Kd α) (t e : TypeId) {i : TypeInfo} (ht : P.underlying t = some (.slice e)) (hi : P.info? e = some i) (A : Option Addr) (n c : Nat) (j : Int) (m : Nat) (hm : j = m) (hj : m ≤ n) (hc : n ≤ c) :
    (∀ W : World, (Instr.slice t (.slice A n c) none (some (.int .i64 j)) none).run P W = .ok (.slice A m c) W) ∧ ∀ (w : World) (xs : List α), d.C w A n xs → d.C w A m (xs.take m) := by
  subst hm
  refine ⟨fun W => ?_, fun w xs h => ?_⟩
  · have := cut_to (P := P) t e .i64 ht hi A n c (m : Int) (by omega) (by omega) hc W
    simpa using this
  · have hl : xs.length = n := h.1
    subst hl
    have := Kd.C_take h hj
    rwa [show (xs.take m).length = m by rw [List.length_take]; omega] at this
theorem sl_drop (d : Kd α) (t e : TypeId) {i : TypeInfo} (ht : P.underlying t = some (.slice e)) (hi : P.info? e = some i) (hs : i.size = d.sz) (A : Option Addr) (n c : Nat) (j : Int) (m : Nat) (hm : j = m) (hj : m ≤ n) (hc : n ≤ c) :
    ∃ A', (∀ W : World, (Instr.slice t (.slice A n c) (some (.int .i64 j)) none none).run P W = .ok (.slice A' (n - m) (c - m)) W) ∧ ∀ (w : World) (xs : List α), d.C w A n xs → d.C w A' (n - m) (xs.drop m) := by
  subst hm
  refine ⟨if c = m then A else A.map (·.add (m * d.sz)), fun W => ?_, fun w xs h => ?_⟩
  · have := cut_from (P := P) t e .i64 ht hi d.sz hs A n c (m : Int) (by omega) (by omega) W
    simpa using this
  · have hl : xs.length = n := h.1
    subst hl
    have := Kd.C_drop (c := c) h hj hc
    rwa [show (xs.drop m).length = xs.length - m from List.length_drop] at this
theorem sl_mid (d : Kd α) (t e : TypeId) {i : TypeInfo} (ht : P.underlying t = some (.slice e)) (hi : P.info? e = some i) (hs : i.size = d.sz) (A : Option Addr) (n c : Nat) (lo hi' : Int) (a b : Nat) (hlo : lo = a) (hhi : hi' = b) (hab : a ≤ b) (hj : b ≤ n) (hc : n ≤ c) :
    ∃ A', (∀ W : World, (Instr.slice t (.slice A n c) (some (.int .i64 lo)) (some (.int .i64 hi')) none).run P W = .ok (.slice A' (b - a) (c - a)) W) ∧ ∀ (w : World) (xs : List α), d.C w A n xs → d.C w A' (b - a) ((xs.take b).drop a) := by
  subst hlo
  subst hhi
  refine ⟨if c = a then A else A.map (·.add (a * d.sz)), fun W => ?_, fun w xs h => ?_⟩
  · have := cut_mid (P := P) t e .i64 .i64 ht hi d.sz hs A n c (a : Int) (b : Int) (by omega) (by omega) (by omega) hc W
    simpa using this
  · have hl : xs.length = n := h.1
    subst hl
    have := Kd.C_mid (c := c) h hab hj hc
    rwa [show ((xs.take b).drop a).length = b - a by rw [List.length_drop, List.length_take]; omega] at this
end
/-! ### append of numbers, an empty literal -/
theorem Hw.row_empty {w0 w : World} {F : HP} {g : Nat} {e : TypeId} {k : IntKind} (h : Hw w0 w (blk g (.cells #[] e (0, 0)) * F)) : Hw w0 w (row (Kd.int k) e (.slice (some ⟨g, 0, none⟩) 0 0) [] * F) :=
  Hw.row_of_blk (xs := []) (enc := Value.int k) (h1 := fun _ => rfl) rfl (by decide) h
section
variable {P : Program} {ops : Array Oper} {rest : List Oper} {o : Oper} {a : Act} {Q : Exit → Act → World → Prop} {w0 W : World} {F : HP}
theorem Hw.append_int {k : IntKind} (hgd : o.guard = none) (s x : Operand) (t e : TypeId) (bytes : Nat)
    (ho : o.op = .call { callee := .builtin .append, args := #[s, x], argTypes := #[t, t] })
    (ht : P.underlying t = some (.slice e)) (hinfo : (P.info? e).map (fun i => (i.zero, i.size, i.bytes)) = some (some (.int k 0), 1, bytes)) (hb0 : 0 < bytes)
    (v : Value) (xs ys : List Int) (A : Option Addr) (m c : Nat) (hs : a.eval s = v) (hx : a.eval x = .slice A m c)
    (h : Hw w0 W (row (Kd.int k) e v xs * F)) (HR : (Kd.int k).C W A m ys) (hl : (xs.length + m) * bytes ≤ 140737488355328) (zs : List Int) (hz : xs ++ ys = zs) (n' : Nat) (hn : zs.length = n')
    (K : ∀ A1 c1 w1, Aside0 (Hw w0 w1 (row (Kd.int k) e (.slice A1 n' c1) zs * F)) → wpList P ops Q rest (a.put o.dst (.slice A1 n' c1)) w1) : wpList P ops Q (o :: rest) a W :=
  Hw.append_row (Value.int k) (0 : Int) (h1 := fun _ => rfl) hgd s x t e (.int k 0) bytes ho ht hinfo rfl hb0 v xs ys A m c hs hx h HR hl (fun A1 n1 c1 w1 hn1 hw1 => by
    have h1 : n1 = n' := by rw [hn1.out, hz]; exact hn
    subst h1
    rw [hz] at hw1
    exact K A1 c1 w1 ⟨hw1⟩)
end
/-- A number of a row that is read and written. -/
theorem Hw.row_int_at {k : IntKind} {w0 w : World} {F : HP} {e c m : Nat} {A : Option Addr} {xs : List Int} (h : Hw w0 w (row (Kd.int k) e (.slice A m c) xs * F)) (i : Nat) (x : Int) (hx : xs[i]? = some x) :
    ∃ ad, A = some ad ∧ w.cell? (ad.add i) = some (.int k x) ∧ w.frozen? (ad.add i) = false ∧ Aside0 (∀ y ys, xs.set i y = ys → Hw w0 (w.setCell (ad.add i) (.int k y)) (row (Kd.int k) e (.slice A m c) ys * F)) := by
  obtain ⟨ad, e1, h2, h3, h4⟩ := row_at (enc := Value.int k) (h1 := fun _ => rfl) h i x hx
  exact ⟨ad, e1, h2, h3, ⟨fun y ys hy => by subst hy; exact h4.out y⟩⟩
/-! ### Lists -/
theorem take_snoc_of {α : Type _} {l : List α} {k : Nat} {x : α} (h : l[k]? = some x) : l.take (k + 1) = l.take k ++ [x] := by
  rw [List.take_add_one, h]; rfl
theorem flat_snoc_of {α : Type _} {l : List (List α)} {k : Nat} {x : List α} (h : l[k]? = some x) : (l.take (k + 1)).flatten = (l.take k).flatten ++ x := by
  rw [take_snoc_of h]
  simp
end Go.Proofs.Ytenblkbieaadnaa
