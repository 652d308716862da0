/- Numbers as bytes, plain. -/
import Derived.Test.YtloiclalcepbeaaText
set_option linter.unusedVariables false
set_option linter.unusedSimpArgs false
namespace Go.Proofs.Ytloiclalcepbeaa
/-- A number from 0 on as bytes: seven bits a byte, the lowest first. -/
def venc (u : Nat) : List Int := if h : u < 128 then [(u : Int)] else ((u % 128 + 128 : Nat) : Int) :: venc (u / 128)
termination_by u
decreasing_by omega
theorem venc_lt {u : Nat} (h : u < 128) : venc u = [(u : Int)] := by rw [venc, dif_pos h]
theorem venc_ge {u : Nat} (h : 128 ≤ u) : venc u = ((u % 128 + 128 : Nat) : Int) :: venc (u / 128) := by rw [venc, dif_neg (by omega)]
/-- A whole number as one from 0 on. -/
def zig (n : Int) : Nat := if 0 ≤ n then (2 * n).toNat else (-2 * n - 1).toNat
def zag (u : Nat) : Int := if u % 2 = 0 then (u / 2 : Nat) else -((u / 2 : Nat) : Int) - 1
theorem zag_zig (n : Int) : zag (zig n) = n := by unfold zag zig; split <;> split <;> omega
theorem zig_zag (u : Nat) : zig (zag u) = u := by unfold zag zig; split <;> split <;> omega
def i64r (n : Int) : Prop := -9223372036854775808 ≤ n ∧ n ≤ 9223372036854775807
theorem zig_lt (n : Int) (h : i64r n) : zig n < 18446744073709551616 := by unfold i64r at h; unfold zig; split <;> omega
theorem zag_r (u : Nat) (h : u < 18446744073709551616) : i64r (zag u) := by unfold i64r zag; split <;> omega
def encI (n : Int) : List Int := venc (zig n)
theorem venc_bytes : ∀ u : Nat, bytes (venc u) := by
  intro u
  induction u using Nat.strongRecOn with
  | _ u ih =>
    by_cases h : u < 128
    · rw [venc_lt h]
      intro x hx
      obtain rfl : x = (u : Int) := by simpa using hx
      omega
    · rw [venc_ge (by omega)]
      intro x hx
      rcases List.mem_cons.1 hx with rfl | hx
      · omega
      · exact ih (u / 128) (by omega) x hx
theorem venc_len : ∀ (k u : Nat), u < 128 ^ (k + 1) → 1 ≤ (venc u).length ∧ (venc u).length ≤ k + 1
  | 0, u, h => by rw [venc_lt (by omega)]; simp
  | k + 1, u, h => by
    by_cases h0 : u < 128
    · rw [venc_lt h0]; simp
    · rw [venc_ge (by omega), List.length_cons]
      have := venc_len k (u / 128) (by rw [Nat.div_lt_iff_lt_mul (by decide)]; rwa [Nat.pow_succ] at h)
      omega
theorem encI_len (n : Int) (h : i64r n) : 1 ≤ (encI n).length ∧ (encI n).length ≤ 10 := by
  have := zig_lt n h
  exact venc_len 9 (zig n) (by omega)
theorem bxor64 (a b : BitVec 64) : Go.bits .xor .u64 (a.toNat : Int) (b.toNat : Int) = ((a ^^^ b).toNat : Int) := by
  simp only [Go.bits, BitVec.ofInt_natCast]
  have e : ∀ x : BitVec 64, BitVec.ofNat IntKind.u64.bits x.toNat = x := fun x => BitVec.ofNat_toNat (m := 64) x
  rw [e a, e b, IntKind.wrap_u64]
  show ((a ^^^ b : BitVec 64).toNat : Int) % 18446744073709551616 = ((a ^^^ b : BitVec 64).toNat : Int)
  have := (a ^^^ b : BitVec 64).isLt
  omega
theorem bv64 (x : Int) (h0 : 0 ≤ x) (h1 : x < 18446744073709551616) : x = ((BitVec.ofNat 64 x.toNat).toNat : Int) := by
  rw [BitVec.toNat_ofNat]; omega
theorem xor64_zero (x : Int) (h0 : 0 ≤ x) (h1 : x < 18446744073709551616) : Go.bits .xor .u64 x 0 = x := by
  have e := bv64 x h0 h1
  have e0 : (0 : Int) = ((0#64).toNat : Int) := rfl
  rw [e0, e, bxor64, BitVec.xor_zero]
theorem xor64_ones (x : Int) (h0 : 0 ≤ x) (h1 : x < 18446744073709551616) : Go.bits .xor .u64 x 18446744073709551615 = 18446744073709551615 - x := by
  have e := bv64 x h0 h1
  have e0 : (18446744073709551615 : Int) = ((BitVec.allOnes 64).toNat : Int) := rfl
  obtain ⟨b, hb⟩ : ∃ b, b = BitVec.ofNat 64 x.toNat := ⟨_, rfl⟩
  rw [← hb] at e
  have h2 : Go.bits .xor .u64 x 18446744073709551615 = ((~~~ b).toNat : Int) := by
    rw [e0, e, bxor64, BitVec.xor_allOnes]
  rw [h2, BitVec.toNat_not, e]
  have := b.isLt
  omega
theorem zig_bits (n : Int) (h : i64r n) : Go.bits .xor .u64 (IntKind.u64.wrap (IntKind.u64.wrap n * 2)) (IntKind.u64.wrap (n / 9223372036854775808)) = (zig n : Int) := by
  unfold i64r at h
  rw [IntKind.wrap_u64, IntKind.wrap_u64, IntKind.wrap_u64]
  by_cases h0 : 0 ≤ n
  · have e1 : (n % 18446744073709551616 * 2) % 18446744073709551616 = 2 * n := by omega
    have e2 : (n / 9223372036854775808) % 18446744073709551616 = 0 := by omega
    rw [e1, e2, xor64_zero _ (by omega) (by omega)]
    unfold zig; rw [if_pos h0]; omega
  · have e1 : (n % 18446744073709551616 * 2) % 18446744073709551616 = 2 * n + 18446744073709551616 := by omega
    have e2 : (n / 9223372036854775808) % 18446744073709551616 = 18446744073709551615 := by omega
    rw [e1, e2, xor64_ones _ (by omega) (by omega)]
    unfold zig; rw [if_neg h0]; omega
theorem or128_table : ∀ a : Fin 256, Go.bits .or .u8 (a.val : Int) 128 = ((a.val % 128 + 128 : Nat) : Int) := by decide +kernel
theorem or128 (u : Nat) : Go.bits .or .u8 ((u : Int) % 256) 128 = ((u % 128 + 128 : Nat) : Int) := by
  have := or128_table ⟨u % 256, by omega⟩
  simp only at this
  rw [show ((u : Int) % 256) = ((u % 256 : Nat) : Int) by omega, this]
  congr 2
  omega
end Go.Proofs.Ytloiclalcepbeaa
