/- A row of bytes, each one raised by one up to a place. -/
import Derived.Test.YtloiclalcepbeaaWWords
set_option linter.unusedVariables false
set_option linter.unusedSimpArgs false
namespace Go.Proofs.Ytloiclalcepbeaa
def inc8 (x : Int) : Int := (x + 1) % 256
def incTo (k : Nat) (xs : List Int) : List Int := (xs.take k).map inc8 ++ xs.drop k
theorem incTo_zero (xs : List Int) : incTo 0 xs = xs := by simp [incTo]
theorem incTo_len (k : Nat) (xs : List Int) : (incTo k xs).length = xs.length := by simp [incTo]; omega
theorem incTo_at (k : Nat) (xs ys : List Int) (x : Int) (h : xs[k]? = some x) : (incTo k xs ++ ys)[k]? = some x := by
  have hk := (List.getElem?_eq_some_iff.1 h).1
  rw [List.getElem?_append_left (by rw [incTo_len]; exact hk)]
  unfold incTo
  rw [List.getElem?_append_right (by simp; omega)]
  simp only [List.length_map, List.length_take, show min k xs.length = k by omega, Nat.sub_self, List.getElem?_drop, Nat.add_zero]
  exact h
theorem incTo_set (k : Nat) (xs ys : List Int) (x : Int) (h : xs[k]? = some x) : (incTo k xs ++ ys).set k (inc8 x) = incTo (k + 1) xs ++ ys := by
  have hk := (List.getElem?_eq_some_iff.1 h).1
  rw [List.set_append_left _ _ (by rw [incTo_len]; exact hk)]
  congr 1
  unfold incTo
  have hl : ((xs.take k).map inc8).length = k := by simp; omega
  rw [List.set_append_right _ _ (by omega), hl, Nat.sub_self]
  have hd : xs.drop k = x :: xs.drop (k + 1) := by
    rw [← List.getElem_cons_drop hk]
    rw [List.getElem?_eq_getElem hk] at h
    simp only [Option.some.injEq] at h
    rw [h]
  rw [hd, List.set_cons_zero, List.take_add_one, h]
  simp
theorem inc8_range (x : Int) : 0 ≤ inc8 x ∧ inc8 x ≤ 255 := by unfold inc8; omega
end Go.Proofs.Ytloiclalcepbeaa
