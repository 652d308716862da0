/- Tokens: Print, whatever the token. -/
import Derived.Test.YtloiclalcepbeaaTokenF
import Derived.Test.YtloiclalcepbeaaTokenQ
set_option linter.unusedVariables false
set_option linter.unusedSimpArgs false
namespace Go.Proofs.Ytloiclalcepbeaa
open Go.RowKit Go.Proofs.YtloiclalcepbeaaW.PrintWords Go.Proofs.YtloiclalcepbeaaW.PrintLast
theorem tfits_nat {node rev : Int} (h : tfits node rev) : ∃ a b : Nat, node = a ∧ rev = b ∧ a < 8 ∧ b ≤ 1125899906842624 := by
  obtain ⟨h0, h1, h2, h3⟩ := h
  exact ⟨node.toNat, rev.toNat, by omega, by omega, by omega, by omega⟩
theorem ttext_fits {a b : Nat} (ha : a < 8) (hb : b ≤ 1125899906842624) : ttext a b = (tdigits a b).map sgn ∧ terr a b = 0 := by
  have hf : tfits a b := ⟨by omega, by omega, by omega, by omega⟩
  unfold ttext terr
  rw [if_pos hf, if_pos hf]
  exact ⟨rfl, rfl⟩
theorem tprint_ok (node rev : Int) (w : World) :
    Calls Try.prog 16 #[.agg #[.int .i64 node, .int .i64 rev]] w fun e w' => e = .returned (.tuple #[.string (strOfNums (ttext node rev)), .int .i64 (terr node rev)]) ∧ Below w.heap.size w w' := by
  by_cases hf : tfits node rev
  · obtain ⟨a, b, rfl, rfl, ha, hb⟩ := tfits_nat hf
    obtain ⟨e1, e2⟩ := ttext_fits ha hb
    rw [e1, e2]
    exact tprint_good a b w ha hb
  · exact tprint_bad node rev w hf
end Go.Proofs.Ytloiclalcepbeaa
