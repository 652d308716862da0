/- The kinds of the arguments of the queue's statements. -/
import Derived.Test.YtacnogbdifgmeaaArgs
set_option linter.unusedVariables false
namespace Go.Proofs.Ytacnogbdifgmeaa
open Go.RowKit Go.Proofs.YtacnogbdifgmeaaW.PrintWords
theorem qopens_i64 : Opens Try.prog 3 (Kd.int .i64) (fun n => (Lit.int .i64 n).wf = true) (fun _ => 1) := opens_int Try.underlying3 (by kernel_rfl)
theorem qopens_ints : Opens Try.prog 40 (Kd.slice 3 (Kd.int .i64)) (fun xs => xs.length * 8 ≤ 140737488351232 ∧ ∀ x ∈ xs, (Lit.int .i64 x).wf = true) (fun xs => (xs.map fun _ => 1).sum + 1) := opens_slice Try.underlying40 (by kernel_rfl) (by kernel_rfl) qopens_i64
theorem qopens_bool : Opens Try.prog 4 Kd.bool (fun _ => True) (fun _ => 1) := opens_bool Try.underlying4 (by kernel_rfl)
theorem qopens_bools : Opens Try.prog 42 (Kd.slice 4 Kd.bool) (fun xs => xs.length * 1 ≤ 140737488351232 ∧ ∀ x ∈ xs, True) (fun xs => (xs.map fun _ => 1).sum + 1) := opens_slice Try.underlying42 (by kernel_rfl) (by kernel_rfl) qopens_bool
end Go.Proofs.Ytacnogbdifgmeaa
