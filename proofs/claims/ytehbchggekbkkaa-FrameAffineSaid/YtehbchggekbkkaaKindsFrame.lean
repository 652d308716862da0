/- The kinds of the arguments of the frame's statements. -/
import Derived.Test.YtehbchggekbkkaaArgs
set_option linter.unusedVariables false
namespace Go.Proofs.Ytehbchggekbkkaa
open Go.RowKit Go.Proofs.YtehbchggekbkkaaW.PrintWords
theorem fopens_u8 : Opens Try.prog 5 (Kd.int .u8) (fun n => (Lit.int .u8 n).wf = true) (fun _ => 1) := opens_int Try.underlying5 (by kernel_rfl)
theorem fopens_bytes : Opens Try.prog 31 (Kd.slice 5 (Kd.int .u8)) (fun xs => xs.length * 1 ≤ 140737488351232 ∧ ∀ x ∈ xs, (Lit.int .u8 x).wf = true) (fun xs => (xs.map fun _ => 1).sum + 1) := opens_slice Try.underlying31 (by kernel_rfl) (by kernel_rfl) fopens_u8
theorem fopens_parts : Opens Try.prog 58 (Kd.slice 31 (Kd.slice 5 (Kd.int .u8))) (fun xs => xs.length * 24 ≤ 140737488351232 ∧ ∀ x ∈ xs, x.length * 1 ≤ 140737488351232 ∧ ∀ y ∈ x, (Lit.int .u8 y).wf = true) (fun xs => (xs.map fun xs => (xs.map fun _ => 1).sum + 1).sum + 1) := opens_slice Try.underlying58 (by kernel_rfl) (by kernel_rfl) fopens_bytes
end Go.Proofs.Ytehbchggekbkkaa
