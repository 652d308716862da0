/- The document's sum, bit by bit, is the register's. -/
import Derived.Test.YtehbchggekbkkaaFrameM
set_option linter.unusedVariables false
set_option linter.unusedSimpArgs false
namespace Go.Proofs.Ytehbchggekbkkaa
/-- A bit, as a register. -/
def bit0 (b : Bool) : B32 := if b then 1#32 else 0#32
theorem bit0_get (b : Bool) (k : Nat) : (bit0 b).getLsbD k = (b && decide (k = 0)) := by
  unfold bit0
  cases b
  · simp
  · cases k with
    | zero => rfl
    | succ k =>
      simp only [if_true, BitVec.getLsbD_one]
      simp
/-- One bit more of a text. -/
def rstep (s : B32) (b : Bool) : B32 := fstep (s ^^^ bit0 b)
theorem fstep_get (s : B32) (k : Nat) : (fstep s).getLsbD k = (s.getLsbD (k + 1) ^^ (s.getLsbD 0 && fpoly.getLsbD k)) := by
  unfold fstep
  split
  · rename_i h
    rw [BitVec.getLsbD_xor, BitVec.getLsbD_ushiftRight, h, Nat.add_comm]; rfl
  · rename_i h
    have h : s.getLsbD 0 = false := by simpa using h
    rw [BitVec.getLsbD_ushiftRight, h, Nat.add_comm]; simp
theorem rstep_get (s : B32) (b : Bool) (k : Nat) : (rstep s b).getLsbD k = (s.getLsbD (k + 1) ^^ ((s.getLsbD 0 ^^ b) && fpoly.getLsbD k)) := by
  unfold rstep
  rw [fstep_get, BitVec.getLsbD_xor, BitVec.getLsbD_xor, bit0_get, bit0_get]
  simp
/-- The first n bits of y. -/
def rsteps : Nat → B32 → B32 → B32
  | 0, s, _ => s
  | n + 1, s, y => rstep (rsteps n s y) (y.getLsbD n)
theorem split0 (z : B32) : ∃ h : B32, z = bit0 (z.getLsbD 0) ^^^ h ∧ fstep h = z >>> 1 := by
  refine ⟨bit0 (z.getLsbD 0) ^^^ z, by rw [← BitVec.xor_assoc, BitVec.xor_self, BitVec.zero_xor], ?_⟩
  have h0 : (bit0 (z.getLsbD 0) ^^^ z).getLsbD 0 = false := by rw [BitVec.getLsbD_xor, bit0_get]; simp
  unfold fstep
  rw [h0]
  simp only [Bool.false_eq_true, if_false]
  apply BitVec.eq_of_getLsbD_eq
  intro i hi
  rw [BitVec.getLsbD_ushiftRight, BitVec.getLsbD_ushiftRight, BitVec.getLsbD_xor, bit0_get]
  have : decide (1 + i = 0) = false := by simp
  rw [this, Bool.and_false, Bool.false_xor]
theorem fsteps_rsteps (n : Nat) (s y : B32) : fsteps n (s ^^^ y) = rsteps n s y ^^^ (y >>> n) := by
  induction n with
  | zero => simp [fsteps, rsteps]
  | succ n ih =>
    obtain ⟨h, hz, hs⟩ := split0 (y >>> n)
    have hg : (y >>> n).getLsbD 0 = y.getLsbD n := by rw [BitVec.getLsbD_ushiftRight]; rfl
    have e1 : fsteps n (s ^^^ y) = (rsteps n s y ^^^ bit0 (y.getLsbD n)) ^^^ h := by
      rw [ih, BitVec.xor_assoc, ← hg, ← hz]
    show fstep (fsteps n (s ^^^ y)) = rstep (rsteps n s y) (y.getLsbD n) ^^^ (y >>> (n + 1))
    rw [e1, fstep_xor, hs]
    unfold rstep
    rw [← BitVec.shiftRight_add]
/-- Bit i of some bytes. -/
def tbit (xs : List Int) (i : Nat) : Bool := ((xs.getD (i / 8) 0).toNat).testBit (i % 8)
/-- The register behind i bits. -/
def rbits (s : B32) (xs : List Int) : Nat → B32
  | 0 => s
  | i + 1 => rstep (rbits s xs i) (tbit xs i)
theorem ofInt_get (x : Int) (h : 0 ≤ x ∧ x ≤ 255) (j : Nat) (hj : j < 8) : (BitVec.ofInt 32 x).getLsbD j = x.toNat.testBit j := by
  obtain ⟨n, rfl⟩ : ∃ n : Nat, x = n := ⟨x.toNat, by omega⟩
  rw [BitVec.ofInt_natCast, BitVec.getLsbD_ofNat, Int.toNat_natCast]
  simp only [show j < 32 by omega, decide_true, Bool.true_and]
theorem ofInt_shr (x : Int) (h : 0 ≤ x ∧ x ≤ 255) : (BitVec.ofInt 32 x) >>> 8 = 0#32 := by
  obtain ⟨n, rfl⟩ : ∃ n : Nat, x = n := ⟨x.toNat, by omega⟩
  apply BitVec.eq_of_toNat_eq
  rw [BitVec.ofInt_natCast, BitVec.toNat_ushiftRight, BitVec.toNat_ofNat, Nat.mod_eq_of_lt (by omega), Nat.shiftRight_eq_div_pow]
  simp
  omega
theorem rbits_in (s : B32) (xs : List Int) (j : Nat) (x : Int) (hx : xs[j]? = some x) (h : 0 ≤ x ∧ x ≤ 255) (n : Nat) (hn : n ≤ 8) : rbits s xs (j * 8 + n) = rsteps n (rbits s xs (j * 8)) (BitVec.ofInt 32 x) := by
  induction n with
  | zero => rfl
  | succ n ih =>
    show rstep (rbits s xs (j * 8 + n)) (tbit xs (j * 8 + n)) = rstep _ _
    rw [ih (by omega), ofInt_get x h n (by omega)]
    unfold tbit
    rw [show (j * 8 + n) / 8 = j by omega, show (j * 8 + n) % 8 = n by omega, List.getD_eq_getElem?_getD, hx]
    rfl
theorem rbits_bytes (s : B32) (xs : List Int) (hr : ∀ x ∈ xs, 0 ≤ x ∧ x ≤ 255) (j : Nat) (hj : j ≤ xs.length) : rbits s xs (j * 8) = feeds s (xs.take j) := by
  induction j with
  | zero => simp [rbits, feeds]
  | succ j ih =>
    obtain ⟨x, hx⟩ : ∃ x, xs[j]? = some x := ⟨_, List.getElem?_eq_getElem (by omega)⟩
    have hm := hr x (List.mem_of_getElem? hx)
    rw [show (j + 1) * 8 = j * 8 + 8 by omega, rbits_in s xs j x hx hm 8 (Nat.le_refl _), ih (by omega), List.take_add_one, hx]
    have h1 := fsteps_rsteps 8 (feeds s (xs.take j)) (BitVec.ofInt 32 x)
    rw [ofInt_shr x hm, BitVec.xor_zero] at h1
    rw [← h1]
    simp [feeds, feed]
theorem rbits_crc (xs : List Int) (hr : ∀ x ∈ xs, 0 ≤ x ∧ x ≤ 255) : ~~~ (rbits (~~~ 0#32) xs (xs.length * 8)) = crc xs := by
  rw [rbits_bytes _ xs hr xs.length (Nat.le_refl _), List.take_of_length_le (Nat.le_refl _)]
  rfl
/-- A bit as a number. -/
def bitI (b : Bool) : Int := if b then 1 else 0
theorem bitI_range (b : Bool) : 0 ≤ bitI b ∧ bitI b ≤ 1 := by cases b <;> simp [bitI]
theorem bitI_xor (a b : Bool) : (bitI a + bitI b) % 2 = bitI (a ^^ b) := by cases a <;> cases b <;> rfl
theorem bitI_and (a b : Bool) : bitI a * bitI b = bitI (a && b) := by cases a <;> cases b <;> rfl
theorem tbit_num (xs : List Int) (i : Nat) (x : Int) (hx : xs[i / 8]? = some x) (h0 : 0 ≤ x) : x / 2 ^ (i % 8) % 2 = bitI (tbit xs i) := by
  obtain ⟨n, rfl⟩ : ∃ n : Nat, x = n := ⟨x.toNat, by omega⟩
  unfold tbit
  rw [List.getD_eq_getElem?_getD, hx]
  have e1 : ((some (n : Int)).getD 0).toNat = n := rfl
  rw [e1]
  have : ((n : Int) / 2 ^ (i % 8) % 2) = ((n / 2 ^ (i % 8) % 2 : Nat) : Int) := by push_cast; rfl
  rw [this]
  have h2 : n / 2 ^ (i % 8) % 2 < 2 := Nat.mod_lt _ (by decide)
  have h3 : n.testBit (i % 8) = decide (n / 2 ^ (i % 8) % 2 = 1) := Nat.testBit_eq_decide_div_mod_eq
  by_cases h : n / 2 ^ (i % 8) % 2 = 1
  · rw [h3, h]; rfl
  · have h4 : n / 2 ^ (i % 8) % 2 = 0 := by omega
    rw [h3, h4]; rfl
/-- The register as 32 numbers. -/
def bitsI (s : B32) : List Int := (List.range 32).map fun k => bitI (s.getLsbD k)
theorem bitsI_len (s : B32) : (bitsI s).length = 32 := by simp [bitsI]
theorem bitsI_at (s : B32) (k : Nat) (hk : k < 32) : (bitsI s)[k]? = some (bitI (s.getLsbD k)) := by simp [bitsI, hk]
/-- The first k bits of a register, as a number. -/
def lowN (s : B32) (k : Nat) : Int := ((s.toNat % 2 ^ k : Nat) : Int)
theorem lowN_succ (s : B32) (k : Nat) : lowN s (k + 1) = lowN s k + (if s.getLsbD k then 2 ^ k else 0) := by
  unfold lowN
  have h1 : s.toNat % 2 ^ (k + 1) = s.toNat % 2 ^ k + 2 ^ k * (s.toNat / 2 ^ k % 2) := by
    rw [Nat.pow_succ, Nat.mod_mul]
  have h3 : s.getLsbD k = decide (s.toNat / 2 ^ k % 2 = 1) := Nat.testBit_eq_decide_div_mod_eq
  have h2 : s.toNat / 2 ^ k % 2 < 2 := Nat.mod_lt _ (by decide)
  rw [h1, h3]
  by_cases h : s.toNat / 2 ^ k % 2 = 1
  · rw [h]; simp
  · have h4 : s.toNat / 2 ^ k % 2 = 0 := by omega
    rw [h4]; simp
theorem lowN_full (s : B32) : lowN s 32 = (s.toNat : Int) := by
  unfold lowN
  rw [Nat.mod_eq_of_lt s.isLt]
theorem lowN_lt (s : B32) (k : Nat) : 0 ≤ lowN s k ∧ lowN s k < 2 ^ k := by
  unfold lowN
  have := Nat.mod_lt s.toNat (Nat.two_pow_pos k)
  refine ⟨by omega, by exact_mod_cast this⟩
end Go.Proofs.Ytehbchggekbkkaa
