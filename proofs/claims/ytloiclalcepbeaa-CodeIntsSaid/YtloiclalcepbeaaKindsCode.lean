/- The kinds of the arguments of the messages' statements. -/
import Derived.Test.YtloiclalcepbeaaArgs
set_option linter.unusedVariables false
namespace Go.Proofs.Ytloiclalcepbeaa
open Go.RowKit Go.Proofs.YtloiclalcepbeaaW.PrintWords
theorem copens_int64 : Opens Try.prog 2 (Kd.int .i64) (fun n => (Lit.int .i64 n).wf = true) (fun _ => 1) := opens_int Try.underlying2 (by kernel_rfl)
theorem copens_u8 : Opens Try.prog 5 (Kd.int .u8) (fun n => (Lit.int .u8 n).wf = true) (fun _ => 1) := opens_int Try.underlying5 (by kernel_rfl)
theorem copens_bytes : Opens Try.prog 35 (Kd.slice 5 (Kd.int .u8)) (fun xs => xs.length * 1 ≤ 140737488351232 ∧ ∀ x ∈ xs, (Lit.int .u8 x).wf = true) (fun xs => (xs.map fun _ => 1).sum + 1) := opens_slice Try.underlying35 (by kernel_rfl) (by kernel_rfl) copens_u8
theorem copens_nums : Opens Try.prog 64 (Kd.slice 2 (Kd.int .i64)) (fun xs => xs.length * 8 ≤ 140737488351232 ∧ ∀ x ∈ xs, (Lit.int .i64 x).wf = true) (fun xs => (xs.map fun _ => 1).sum + 1) := opens_slice Try.underlying64 (by kernel_rfl) (by kernel_rfl) copens_int64
end Go.Proofs.Ytloiclalcepbeaa
