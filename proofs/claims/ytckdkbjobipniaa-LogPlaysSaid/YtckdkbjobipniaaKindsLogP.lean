/- The kinds of LogPlays' script: its calls, each with a message, bytes and a number. -/
import Derived.Test.YtckdkbjobipniaaCC
import Derived.Test.YtckdkbjobipniaaLogA
import Derived.Test.YtckdkbjobipniaaCodeRE
set_option linter.unusedVariables false
namespace Go.Proofs.Ytckdkbjobipniaa
open Go.RowKit Go.Proofs.YtckdkbjobipniaaW.PrintWords
abbrev TO := Int × TM0 × List Int × Int
abbrev KOp4 := Kd.pair (Kd.int .i64) (Kd.pair KMsg (Kd.pair (Kd.slice 5 (Kd.int .u8)) (Kd.int .i64)))
def sBy (xs : List Int) : Prop := xs.length * 1 ≤ 140737488351232 ∧ ∀ x ∈ xs, (Lit.int .u8 x).wf = true
def mBy (xs : List Int) : Nat := (xs.map fun _ => 1).sum + 1
def sO2 (y : List Int × Int) : Prop := sBy y.1 ∧ cS y.2
def mO2 (y : List Int × Int) : Nat := mBy y.1 + 1
def sO1 (y : TM0 × List Int × Int) : Prop := sM0 y.1 ∧ sO2 y.2
def mO1 (y : TM0 × List Int × Int) : Nat := (mM0 y.1 + 1) + mO2 y.2
def sO0 (y : TO) : Prop := cS y.1 ∧ sO1 y.2
def mO0 (y : TO) : Nat := 1 + mO1 y.2
theorem copens_op4 : Opens Try.prog 53 KOp4 sO0 (fun y => mO0 y + 1) :=
  opens_struct (n := 15) (mu := mO0) Try.underlying53 (by kernel_rfl)
    (opensF_cons (S := cS) (S' := sO1) (mu := fun _ => 1) (mu' := mO1) (n := 1) (m := 14) rfl (by kernel_rfl) copens_int
      (opensF_cons (S := sM0) (S' := sO2) (mu := fun y => mM0 y + 1) (mu' := mO2) (n := 12) (m := 2) rfl (by kernel_rfl) copens_msg
        (opensF_cons (S := sBy) (S' := cS) (mu := mBy) (mu' := fun _ => 1) (n := 1) (m := 1) rfl (by kernel_rfl) copens_bytes
          (opensF_one (n := 1) rfl (by kernel_rfl) copens_int))))
theorem copens_ops4 : Opens Try.prog 41 (Kd.slice 53 KOp4) (fun l => l.length * 200 ≤ 140737488351232 ∧ ∀ y ∈ l, sO0 y) (fun l => (l.map (fun y => mO0 y + 1)).sum + 1) := opens_slice Try.underlying41 (by kernel_rfl) (by kernel_rfl) copens_op4
structure OpX where
  kind : Int
  x : MH
  B : Option Addr
  nb : Nat
  cb : Nat
  bs : List Int
  num : Int
abbrev opC (o : OpX) : List Value := .int .i64 o.kind :: (mhC o.x ++ [.slice o.B o.nb o.cb, .int .i64 o.num])
structure OpOk (w : World) (o : OpX) : Prop where
  c : o.x.C w
  ok : MsgOk o.x.m
  sz : MsgSz o.x.m
  b : (Kd.int .u8).C w o.B o.nb o.bs
  le : o.nb ≤ o.cb
  len : o.bs.length = o.nb
  by_ : bytes o.bs
  max : o.nb ≤ 140737488351232
theorem msg_sz4 {y : TM0} (h : sM0 y) : MsgSz (msgOf y) := by
  obtain ⟨a0, a1, a2, a3, a4, a5, a6, f, l1, l2, l3, l4⟩ := y
  obtain ⟨h0, h1, h2, h3, h4, h5, h6, _, ⟨b1, r1⟩, ⟨b2, r2⟩, ⟨b3, r3⟩, b4, r4⟩ := h
  exact ⟨fun x hx => (r2 x hx).2, fun x hx => (r3 x hx).2, fun x hx => (r4 x hx).1⟩
theorem op4_at {w : World} {A : Option Addr} {n : Nat} {ys : List TO} (h : KOp4.C w A n ys) (hS : ∀ y ∈ ys, sO0 y) (k : Nat) (hk : k < n) :
    ∃ ad o, A = some ad ∧ Aside0 (OpOk w o) ∧ (∀ i u, (opC o)[i]? = some u → w.cell? (ad.add (k * 15 + i)) = some u) := by
  obtain ⟨ad, e, hc⟩ := h.2.2 (by omega)
  have hl : k < ys.length := by have := h.1; omega
  obtain ⟨y, hy⟩ : ∃ y, ys[k]? = some y := ⟨_, List.getElem?_eq_getElem hl⟩
  obtain ⟨cs, hs, hK, hcell⟩ := hc k y hy
  have hS1 := hS y (List.mem_of_getElem? hy)
  obtain ⟨ki, ym, bs, nu⟩ := y
  obtain ⟨h0, hm, hb, hn⟩ := hS1
  obtain ⟨c0, c1, rfl, g0, c2, c3, rfl, g2, c4, c5, rfl, ⟨B, cb, g4, hle, hC⟩, g5⟩ := hK
  have g0 : c0 = [.int .i64 ki] := g0
  have g5 : c5 = [.int .i64 nu] := g5
  obtain ⟨s1, s2, s3, s4, hv, hM, hO, hL⟩ := msg_open (cs := c2.toArray) (by simpa using g2) hm
  have hcs : c2 = mhC ⟨msgOf ym, s1, s2, s3, s4⟩ := by
    injection hv with hv
    have := congrArg Array.toList hv
    simpa using this
  have g4 : c4 = [.slice B bs.length cb] := g4
  subst g0 g4 g5
  refine ⟨ad, ⟨ki, ⟨msgOf ym, s1, s2, s3, s4⟩, B, bs.length, cb, bs, nu⟩, e, ⟨⟨hM, hO, msg_sz4 hm, hC, hle, rfl, bytes_wf hb.2, by have h7 : bs.length * 1 ≤ 140737488351232 := hb.1; show bs.length ≤ _; omega⟩⟩, fun i u hu => hcell i u ?_⟩
  rw [hcs]
  exact hu
end Go.Proofs.Ytckdkbjobipniaa
