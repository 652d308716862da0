/- Numbers written are read again; how many bytes they have: plain. -/
import Derived.Test.YtloiclalcepbeaaCodeG
set_option linter.unusedVariables false
set_option linter.unusedSimpArgs false
namespace Go.Proofs.Ytloiclalcepbeaa
set_option maxRecDepth 100000 in
theorem gget_venc : ∀ (u i acc : Nat) (ys : List Int), i ≤ 9 → u * 128 ^ i < 18446744073709551616 → (u = 0 → i = 0) → gget i acc (venc u ++ ys) = (zag (acc + u * 128 ^ i), (i : Int) + (venc u).length, 0) := by
  intro u
  induction u using Nat.strongRecOn with
  | _ u ih =>
    intro i acc ys hi hu h0
    have p9 : (128 : Nat) ^ 9 = 9223372036854775808 := by decide
    by_cases h : u < 128
    · rw [venc_lt h]
      show gget i acc ((u : Int) :: ys) = _
      unfold gget
      rw [if_neg, if_pos (by omega), if_neg]
      · simp
      · rintro ⟨h1, h2⟩
        have := h0 (by omega)
        omega
      · rintro ⟨h1, h2⟩
        subst h1
        rw [p9] at hu
        omega
    · rw [venc_ge (by omega)]
      show gget i acc (((u % 128 + 128 : Nat) : Int) :: (venc (u / 128) ++ ys)) = _
      have hi8 : i ≤ 8 := by
        rcases Nat.lt_or_ge i 9 with h1 | h1
        · omega
        · have : i = 9 := by omega
          subst this
          rw [p9] at hu
          omega
      unfold gget
      rw [if_neg (by omega), if_neg (by omega)]
      have e1 : (((u % 128 + 128 : Nat) : Int).toNat - 128) = u % 128 := by omega
      have e2 : u / 128 * 128 ^ (i + 1) + u % 128 * 128 ^ i = u * 128 ^ i := by
        rw [Nat.pow_succ, ← Nat.mul_assoc, Nat.mul_right_comm, ← Nat.add_mul]
        congr 1
        omega
      rw [e1, ih (u / 128) (by omega) (i + 1) _ ys (by omega) (by omega) (by omega)]
      have e3 : acc + u % 128 * 128 ^ i + u / 128 * 128 ^ (i + 1) = acc + u * 128 ^ i := by omega
      rw [e3]
      simp only [List.length_cons]
      congr 2
      omega
set_option maxRecDepth 100000 in
theorem getI_enc (n : Int) (h : i64r n) (ys : List Int) : getI (encI n ++ ys) = (n, ((encI n).length : Int), 0) := by
  unfold getI encI
  rw [gget_venc (zig n) 0 0 ys (by decide) (by simpa using zig_lt n h) (fun _ => rfl)]
  simp [zag_zig]
/-- How many bytes behind the first. -/
def nd (x : Nat) : Nat := if h : x = 0 then 0 else nd (x / 128) + 1
termination_by x
decreasing_by omega
theorem nd_zero : nd 0 = 0 := by rw [nd]; simp
theorem nd_pos {x : Nat} (h : 0 < x) : nd x = nd (x / 128) + 1 := by rw [nd, dif_neg (by omega)]
theorem venc_nd (u : Nat) : (venc u).length = nd (u / 128) + 1 := by
  induction u using Nat.strongRecOn with
  | _ u ih =>
    by_cases h : u < 128
    · rw [venc_lt h, Nat.div_eq_of_lt h, nd_zero]; rfl
    · rw [venc_ge (by omega), List.length_cons, ih (u / 128) (by omega), nd_pos (x := u / 128) (by omega)]
/-- A number, or its complement below nought. -/
def mostN (n : Int) : Nat := if 0 ≤ n then n.toNat else (-n - 1).toNat
theorem encI_nd (n : Int) : (encI n).length = nd (mostN n / 64) + 1 := by
  unfold encI
  rw [venc_nd]
  congr 2
  unfold zig mostN
  split <;> omega
end Go.Proofs.Ytloiclalcepbeaa
