/- The kinds of the arguments of the network's statements. -/
import Derived.Test.YtehbchggekbkkaaArgs
set_option linter.unusedVariables false
namespace Go.Proofs.Ytehbchggekbkkaa
open Go.RowKit Go.Proofs.YtehbchggekbkkaaW.PrintWords
theorem nopens_u8 : Opens Try.prog 5 (Kd.int .u8) (fun n => (Lit.int .u8 n).wf = true) (fun _ => 1) := opens_int Try.underlying5 (by kernel_rfl)
theorem nopens_bytes : Opens Try.prog 31 (Kd.slice 5 (Kd.int .u8)) (fun xs => xs.length * 1 ≤ 140737488351232 ∧ ∀ x ∈ xs, (Lit.int .u8 x).wf = true) (fun xs => (xs.map fun _ => 1).sum + 1) := opens_slice Try.underlying31 (by kernel_rfl) (by kernel_rfl) nopens_u8
theorem nopens_i64 : Opens Try.prog 3 (Kd.int .i64) (fun n => (Lit.int .i64 n).wf = true) (fun _ => 1) := opens_int Try.underlying3 (by kernel_rfl)
theorem nopens_ints : Opens Try.prog 23 (Kd.slice 3 (Kd.int .i64)) (fun xs => xs.length * 8 ≤ 140737488351232 ∧ ∀ x ∈ xs, (Lit.int .i64 x).wf = true) (fun xs => (xs.map fun _ => 1).sum + 1) := opens_slice Try.underlying23 (by kernel_rfl) (by kernel_rfl) nopens_i64
theorem nopens_str : Opens Try.prog 9 Kd.string (fun s => s.size ≤ 140737488351232) (fun s => s.size + 1) := opens_string Try.underlying9 (by kernel_rfl)
theorem nopens_strs : Opens Try.prog 22 (Kd.slice 9 Kd.string) (fun xs => xs.length * 16 ≤ 140737488351232 ∧ ∀ x ∈ xs, x.size ≤ 140737488351232) (fun xs => (xs.map fun s => s.size + 1).sum + 1) := opens_slice Try.underlying22 (by kernel_rfl) (by kernel_rfl) nopens_str
end Go.Proofs.Ytehbchggekbkkaa
