/- The plain law of the oracle's issues where every record is the oracle's own; the disk's Size and Durable under an oracle; the kinds of its statements. -/
import Derived.Test.YtckdkbjobipniaaOrcW
import Derived.Test.YtckdkbjobipniaaCC
set_option linter.unusedVariables false
set_option linter.unusedSimpArgs false
namespace Go.Proofs.Ytckdkbjobipniaa
open Go.RowKit Go.Proofs.YtckdkbjobipniaaW.PrintWords Go.Proofs.YtckdkbjobipniaaW.PrintLast
abbrev TP := Int × Int × Int × TM0
abbrev KOp14 := Kd.pair (Kd.int .i64) (Kd.pair (Kd.int .i64) (Kd.pair (Kd.int .i64) KMsg))
def sP2 (y : Int × TM0) : Prop := cS y.1 ∧ sM0 y.2
def mP2 (y : Int × TM0) : Nat := 1 + (mM0 y.2 + 1)
def sP1 (y : Int × Int × TM0) : Prop := cS y.1 ∧ sP2 y.2
def mP1 (y : Int × Int × TM0) : Nat := 1 + mP2 y.2
def sP0 (y : TP) : Prop := cS y.1 ∧ sP1 y.2
def mP0 (y : TP) : Nat := 1 + mP1 y.2
theorem copens_op14 : Opens Try.prog 80 KOp14 sP0 (fun y => mP0 y + 1) :=
  opens_struct (n := 15) (mu := mP0) Try.underlying80 (by kernel_rfl)
    (opensF_cons (S := cS) (S' := sP1) (mu := fun _ => 1) (mu' := mP1) (n := 1) (m := 14) rfl (by kernel_rfl) copens_int
      (opensF_cons (S := cS) (S' := sP2) (mu := fun _ => 1) (mu' := mP2) (n := 1) (m := 13) rfl (by kernel_rfl) copens_int
        (opensF_cons (S := cS) (S' := sM0) (mu := fun _ => 1) (mu' := fun y => mM0 y + 1) (n := 1) (m := 12) rfl (by kernel_rfl) copens_i64
          (opensF_one (n := 12) rfl (by kernel_rfl) copens_msg))))
theorem copens_ops14 : Opens Try.prog 72 (Kd.slice 80 KOp14) (fun l => l.length * 184 ≤ 140737488351232 ∧ ∀ y ∈ l, sP0 y) (fun l => (l.map (fun y => mP0 y + 1)).sum + 1) := opens_slice Try.underlying72 (by kernel_rfl) (by kernel_rfl) copens_op14
theorem i64r_wfP {x : Int} (h : (Lit.int .i64 x).wf = true) : i64r x := by
  have h2 := h
  simp only [Lit.wf, Bool.and_eq_true, decide_eq_true_eq] at h2
  exact h2
structure OpP where
  kind : Int
  src : Int
  id : Int
  x : MH
abbrev opP (o : OpP) : List Value := .int .i64 o.kind :: .int .i64 o.src :: .int .i64 o.id :: mhC o.x
structure OpPOk (w : World) (o : OpP) : Prop where
  c : o.x.C w
  ok : MsgOk o.x.m
  src : i64r o.src
  id : i64r o.id
section
variable {w0 w : World} {F : HP} {o p : Nat} {ms : List Msg} {room : Int} {bytes : List Int} {dur : Int}
theorem OrcOn.drew (h : OrcOn w0 w F o p ms room) : OrcOn w0 w.drew F o p ms room := by
  obtain ⟨q, mb, A, n, c, g, h1, h2, H⟩ := h
  exact ⟨q, mb, A, n, c, g, h1, h2, H.drew⟩
theorem olast_v (h : OrcOn w0 w F o p ms room) (x : Int) (hx : olast (oopen ms) = x) : Calls Try.prog 43 #[.pointer (some ⟨o, 0, none⟩)] w fun e w' => e = .returned (.int .i64 x) ∧ w' = w := by
  subst hx
  exact olast_on h
end
end Go.Proofs.Ytckdkbjobipniaa
