/- Tokens, plain: the weighted sum, the check sign. -/
import Derived.Test.YtloiclalcepbeaaWWords
set_option linter.unusedVariables false
set_option linter.unusedSimpArgs false
namespace Go.Proofs.Ytloiclalcepbeaa
/-- The weighted sum of some signs, the first of weight i + 1. -/
def tsum : Nat → List Int → Int
  | _, [] => 0
  | i, d :: ds => ((i : Int) + 1) * d + tsum (i + 1) ds
theorem tsum_snoc : ∀ (i : Nat) (ds : List Int) (d : Int), tsum i (ds ++ [d]) = tsum i ds + ((i : Int) + ds.length + 1) * d
  | i, [], d => by simp [tsum]
  | i, x :: ds, d => by
    simp only [List.cons_append, tsum, tsum_snoc (i + 1) ds d, List.length_cons]
    have : (((i + 1 : Nat) : Int) + ds.length + 1) = (i : Int) + ((ds.length + 1 : Nat) : Int) + 1 := by omega
    rw [this]
    omega
def digs (ds : List Int) : Prop := ∀ d ∈ ds, 0 ≤ d ∧ d ≤ 30
theorem weight_bound (i : Nat) (d : Int) (hi : i + 1 ≤ 64) (h0 : 0 ≤ d) (h1 : d ≤ 30) : 0 ≤ ((i : Int) + 1) * d ∧ ((i : Int) + 1) * d ≤ 1920 := by
  have a := Int.mul_le_mul (show ((i : Int) + 1) ≤ 64 by omega) h1 h0 (by omega)
  have b := Int.mul_nonneg (show 0 ≤ ((i : Int) + 1) by omega) h0
  exact ⟨b, by omega⟩
theorem tsum_bound : ∀ (i : Nat) (ds : List Int), digs ds → i + ds.length ≤ 64 → 0 ≤ tsum i ds ∧ tsum i ds ≤ 1920 * ds.length
  | i, [], _, _ => by simp [tsum]
  | i, d :: ds, hd, hl => by
    simp only [List.length_cons] at hl
    obtain ⟨h0, h1⟩ := hd d (by simp)
    obtain ⟨b0, b1⟩ := weight_bound i d (by omega) h0 h1
    obtain ⟨r0, r1⟩ := tsum_bound (i + 1) ds (fun x hx => hd x (by simp [hx])) (by omega)
    simp only [tsum, List.length_cons]
    omega
/-- Does x make the sum nought? -/
def tok (ds : List Int) (x : Nat) : Bool := (tsum 0 ds + ((ds.length : Int) + 1) * x) % 31 == 0
/-- The check sign. -/
def tcheck (ds : List Int) : Nat := ((List.range 31).find? (tok ds)).getD 0
theorem tcheck_found (ds : List Int) (x : Nat) (hx : x < 31) (h1 : tok ds x = true) (h0 : ∀ y, y < x → tok ds y = false) : tcheck ds = x := by
  unfold tcheck
  have : (List.range 31).find? (tok ds) = some x := by
    rw [List.find?_range_eq_some]
    exact ⟨h1, by simpa using hx, fun j hj => by simp [h0 j hj]⟩
  rw [this]; rfl
theorem tcheck_none (ds : List Int) (h0 : ∀ y, y < 31 → tok ds y = false) : tcheck ds = 0 := by
  unfold tcheck
  have : (List.range 31).find? (tok ds) = none := by
    rw [List.find?_eq_none]
    intro y hy
    simp [h0 y (by simpa using hy)]
  rw [this]; rfl
theorem tcheck_lt (ds : List Int) : tcheck ds < 31 := by
  unfold tcheck
  cases h : (List.range 31).find? (tok ds) with
  | none => decide
  | some x =>
    have := List.mem_of_find?_eq_some h
    simpa using this
end Go.Proofs.Ytloiclalcepbeaa
