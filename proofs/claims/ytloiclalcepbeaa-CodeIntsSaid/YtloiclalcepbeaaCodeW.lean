/- The source: a message. -/
import Derived.Test.YtloiclalcepbeaaCodeV
import Derived.Test.YtloiclalcepbeaaCodeE
set_option linter.unusedVariables false
set_option linter.unusedSimpArgs false
namespace Go.Proofs.Ytloiclalcepbeaa
open Go.RowKit Go.Proofs.YtloiclalcepbeaaW.PrintWords Go.Proofs.YtloiclalcepbeaaW.PrintLast
theorem many_stepG {α β : Type} {one : List Int → Rd α} {r : Rd β} {G : List α → List Int → Rd β} {l : List α} {k : Nat} {xs ys : List Int} {a : α} (h : r = (rMany one (k + 1) xs).bind fun l' vs => G (l ++ l') vs) (h1 : one xs = .ok (a, ys)) :
    r = (rMany one k ys).bind fun l' vs => G ((l ++ [a]) ++ l') vs := by
  rw [h]
  show ((one xs).bind fun a ys => (rMany one k ys).bind fun l zs => .ok (a :: l, zs)).bind _ = _
  rw [Rd.bind_ok h1]
  cases hr : rMany one k ys with
  | error e => rfl
  | ok p => simp [Rd.bind]
theorem many_errG {α β : Type} {one : List Int → Rd α} {r : Rd β} {G : List α → List Int → Rd β} {l : List α} {k : Nat} {xs : List Int} {c : Int} (h : r = (rMany one (k + 1) xs).bind fun l' vs => G (l ++ l') vs) (h1 : one xs = .error c) : r = .error c := by
  rw [h]
  show ((one xs).bind fun a ys => (rMany one k ys).bind fun l zs => .ok (a :: l, zs)).bind _ = _
  rw [Rd.bind_err h1]; rfl
/-- The message of seven numbers and what follows. -/
def mkMsg (l : List Int) (f : Bool) (n : List Int) (u p : List Mut) (r : List Rw) : Msg := ⟨l.getD 0 0, l.getD 1 0, l.getD 2 0, l.getD 3 0, l.getD 4 0, l.getD 5 0, l.getD 6 0, f, n, u, p, r⟩
def rRest (l : List Int) (xs : List Int) : Rd Msg := (rFlag xs).bind fun f y0 => (rList rInt y0).bind fun n y1 => (rList rMut y1).bind fun u y2 => (rList rMut y2).bind fun p y3 => (rList rRow y3).bind fun r y4 => .ok (mkMsg l f n u p r, y4)
def rMsg (xs : List Int) : Rd Msg := (rMany rInt 7 xs).bind fun l ys => rRest l ys
def mzero : List Value := [.int .i64 0, .int .i64 0, .int .i64 0, .int .i64 0, .int .i64 0, .int .i64 0, .int .i64 0, .bool false, .slice none 0 0, .slice none 0 0, .slice none 0 0, .slice none 0 0]
/-- The message's cells, the first of them new. -/
def mcells (l : List Value) : Array Value := (l ++ mzero.drop l.length).toArray
theorem mcells_set (l : List Value) (v : Value) (k : Nat) (hk : l.length = k) (h : k < 12) : (mcells l).setIfInBounds k v = mcells (l ++ [v]) := by
  subst hk
  unfold mcells
  rw [List.setIfInBounds_toArray]
  congr 1
  rw [List.set_append_right _ _ (Nat.le_refl _), Nat.sub_self, List.length_append, List.append_assoc]
  congr 1
  have hz : l.length < mzero.length := h
  rw [List.drop_eq_getElem_cons hz]
  rfl
theorem mcells_at (l : List Value) (k : Nat) (h : k < 12) : ∃ v, (mcells l)[k]? = some v := by
  have : k < (mcells l).size := by
    unfold mcells
    have hz : mzero.length = 12 := rfl
    simp only [List.size_toArray, List.length_append, List.length_drop, hz]
    omega
  exact ⟨_, Array.getElem?_eq_getElem this⟩
theorem leaves_same {P : Program} {fn : Func} {R : Ending → World → Prop} {t1 t2 : Array Value} (h : results fn t1 = results fn t2) : ∀ (ds : List Deferred) (u : FrameMode) (w : World), Leaves P fn t1 R ds u w = Leaves P fn t2 R ds u w
  | [], u, w => by cases u <;> simp [Leaves, h]
  | d :: ds, u, w => by
    have ih := leaves_same (P := P) (R := R) h ds
    simp only [Leaves]
    congr 1
    congr 1
    funext fv; congr 1; funext cap; congr 1; funext f; congr 1; funext args
    congr 3
    funext e u' w'
    cases e <;> simp [ih]
theorem hq43 {R : Ending → World → Prop} {d : Option Tmp} {v : Value} (hd : d ≠ some 4) (c : List PanicEntry) (a : Act) (w : World) (h : bodyPostD Try.prog Try.f43 R (.panic c) (a.put d v) w) : bodyPostD Try.prog Try.f43 R (.panic c) a w := by
  cases d with
  | none => exact h
  | some d =>
    have h4 : d ≠ 4 := fun e => hd (by rw [e])
    change Leaves _ _ (a.tmps.setIfInBounds d v) R a.defers (.panicking c) w at h
    change Leaves _ _ a.tmps R a.defers (.panicking c) w
    rwa [leaves_same (t2 := a.tmps)] at h
    simp [results, Try.results43, Array.getElem?_setIfInBounds, h4]
end Go.Proofs.Ytloiclalcepbeaa
