/- The kinds of the arguments of the disk's statements. -/
import Derived.Test.YtacnogbdifgmeaaArgs
set_option linter.unusedVariables false
namespace Go.Proofs.Ytacnogbdifgmeaa
open Go.RowKit Go.Proofs.YtacnogbdifgmeaaW.PrintWords
theorem opens_u8 : Opens Try.prog 5 (Kd.int .u8) (fun n => (Lit.int .u8 n).wf = true) (fun _ => 1) := opens_int Try.underlying5 (by kernel_rfl)
theorem opens_bytes : Opens Try.prog 22 (Kd.slice 5 (Kd.int .u8)) (fun xs => xs.length * 1 ≤ 140737488351232 ∧ ∀ x ∈ xs, (Lit.int .u8 x).wf = true) (fun xs => (xs.map fun _ => 1).sum + 1) := opens_slice Try.underlying22 (by kernel_rfl) (by kernel_rfl) opens_u8
end Go.Proofs.Ytacnogbdifgmeaa
