/- A bit of a byte turned. -/
import Derived.Test.YtenblkbieaadnaaWWords
set_option linter.unusedVariables false
set_option linter.unusedSimpArgs false
namespace Go.Proofs.Ytenblkbieaadnaa
/-- Bit r of a byte turned. -/
def flip8 (v : Int) (r : Nat) : Int := if v / 2 ^ r % 2 = 1 then v - 2 ^ r else v + 2 ^ r
theorem flip8_table : ∀ (a : Fin 256) (r : Fin 8), Go.bits .xor .u8 (a.val : Int) (2 ^ r.val) = flip8 a.val r.val ∧ flip8 a.val r.val ≠ a.val ∧ 0 ≤ flip8 a.val r.val ∧ flip8 a.val r.val ≤ 255 ∧ flip8 (flip8 a.val r.val) r.val = a.val := by decide +kernel
theorem flip8_at (v : Int) (r : Nat) (h0 : 0 ≤ v) (h1 : v ≤ 255) (hr : r < 8) : Go.bits .xor .u8 v (2 ^ r) = flip8 v r ∧ flip8 v r ≠ v ∧ 0 ≤ flip8 v r ∧ flip8 v r ≤ 255 ∧ flip8 (flip8 v r) r = v := by
  obtain ⟨n, rfl⟩ : ∃ n : Nat, v = n := ⟨v.toNat, by omega⟩
  exact flip8_table ⟨n, by omega⟩ ⟨r, hr⟩
theorem wrap_bit (r : Nat) (hr : r < 8) : IntKind.u8.wrap ((2 : Int) ^ r) = 2 ^ r := by
  have h : ∀ r : Fin 8, IntKind.u8.wrap ((2 : Int) ^ r.val) = 2 ^ r.val := by decide +kernel
  exact h ⟨r, hr⟩
theorem flip8_facts (v : Int) (r : Nat) (h0 : 0 ≤ v) (h1 : v ≤ 255) (hr : r < 8) : ∃ y : Int, y = flip8 v r ∧ Go.bits .xor .u8 v (IntKind.u8.wrap ((2 : Int) ^ r)) = y ∧ y ≠ v ∧ 0 ≤ y ∧ y ≤ 255 ∧ flip8 y r = v := by
  obtain ⟨f1, f2, f3, f4, f5⟩ := flip8_at v r h0 h1 hr
  exact ⟨flip8 v r, rfl, by rw [wrap_bit r hr]; exact f1, f2, f3, f4, f5⟩
end Go.Proofs.Ytenblkbieaadnaa
