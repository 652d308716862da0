/- The kinds of lists of messages as arguments. -/
import Derived.Test.YtahojkpbjijckaaCC
set_option linter.unusedVariables false
namespace Go.Proofs.Ytahojkpbjijckaa
open Go.RowKit Go.Proofs.YtahojkpbjijckaaW.PrintWords
theorem copens_msgs : Opens Try.prog 22 (Kd.slice 36 KMsg) (fun l => l.length * 160 ≤ 140737488351232 ∧ ∀ y ∈ l, sM0 y) (fun l => (l.map (fun y => mM0 y + 1)).sum + 1) := opens_slice Try.underlying22 (by kernel_rfl) (by kernel_rfl) copens_msg
end Go.Proofs.Ytahojkpbjijckaa
