/- The kinds of the arguments of the tokens' statements. -/
import Derived.Test.YtloiclalcepbeaaArgs
set_option linter.unusedVariables false
namespace Go.Proofs.Ytloiclalcepbeaa
open Go.RowKit Go.Proofs.YtloiclalcepbeaaW.PrintWords
theorem topens_int : Opens Try.prog 3 (Kd.int .i64) (fun n => (Lit.int .i64 n).wf = true) (fun _ => 1) := opens_int Try.underlying3 (by kernel_rfl)
theorem topens_int64 : Opens Try.prog 2 (Kd.int .i64) (fun n => (Lit.int .i64 n).wf = true) (fun _ => 1) := opens_int Try.underlying2 (by kernel_rfl)
abbrev KTok := Kd.pair (Kd.int .i64) (Kd.int .i64)
def tS (n : Int) : Prop := (Lit.int .i64 n).wf = true
def tM (_ : Int) : Nat := 1
theorem topens_tok : Opens Try.prog 23 KTok (fun y => tS y.1 ∧ tS y.2) (fun y => (tM y.1 + tM y.2) + 1) :=
  opens_struct (n := 2) (mu := fun y : Int × Int => tM y.1 + tM y.2) Try.underlying23 (by kernel_rfl)
    (opensF_cons (S := tS) (S' := tS) (mu := tM) (mu' := tM) (n := 1) (m := 1) rfl (by kernel_rfl) topens_int (opensF_one (n := 1) rfl (by kernel_rfl) topens_int64))
theorem topens_toks : Opens Try.prog 38 (Kd.slice 23 KTok) (fun xs => xs.length * 16 ≤ 140737488351232 ∧ ∀ y ∈ xs, tS y.1 ∧ tS y.2) (fun xs => (xs.map fun y => (tM y.1 + tM y.2) + 1).sum + 1) :=
  opens_slice Try.underlying38 (by kernel_rfl) (by kernel_rfl) topens_tok
end Go.Proofs.Ytloiclalcepbeaa
