/- The kinds of LogPlays' script: its calls, each with a message, bytes and a number. -/
import Derived.Test.YtckdkbjobipniaaCC
import Derived.Test.YtckdkbjobipniaaLogA
import Derived.Test.YtckdkbjobipniaaCodeRE
set_option linter.unusedVariables false
namespace Go.Proofs.Ytckdkbjobipniaa
open Go.RowKit Go.Proofs.YtckdkbjobipniaaW.PrintWords
structure OpX where
  kind : Int
  x : MH
  B : Option Addr
  nb : Nat
  cb : Nat
  bs : List Int
  num : Int
structure OpOk (w : World) (o : OpX) : Prop where
  c : o.x.C w
  ok : MsgOk o.x.m
  sz : MsgSz o.x.m
  b : (Kd.int .u8).C w o.B o.nb o.bs
  le : o.nb ≤ o.cb
  len : o.bs.length = o.nb
  by_ : bytes o.bs
  max : o.nb ≤ 140737488351232
theorem msg_sz4 {y : TM0} (h : sM0 y) : MsgSz (msgOf y) := by
  obtain ⟨a0, a1, a2, a3, a4, a5, a6, f, l1, l2, l3, l4⟩ := y
  obtain ⟨h0, h1, h2, h3, h4, h5, h6, _, ⟨b1, r1⟩, ⟨b2, r2⟩, ⟨b3, r3⟩, b4, r4⟩ := h
  exact ⟨fun x hx => (r2 x hx).2, fun x hx => (r3 x hx).2, fun x hx => (r4 x hx).1⟩
end Go.Proofs.Ytckdkbjobipniaa
