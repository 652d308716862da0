/- The frame's sum: a shift register of 32 bits; it is a linear law. -/
import Derived.Test.YtckdkbjobipniaaWWords
import Derived.Test.YtckdkbjobipniaaChecked
import Derived.Test.YtckdkbjobipniaaBA
import Derived.Test.YtckdkbjobipniaaWLast
import Derived.BigQuiet
import Derived.Test.YtckdkbjobipniaaBB
set_option linter.unusedVariables false
set_option linter.unusedSimpArgs false
namespace Go.Proofs.Ytckdkbjobipniaa
abbrev B32 := BitVec 32
def fpoly : B32 := 0x82f63b78#32
def fstep (s : B32) : B32 := if s.getLsbD 0 then (s >>> 1) ^^^ fpoly else s >>> 1
def fsteps : Nat → B32 → B32
  | 0, s => s
  | n + 1, s => fstep (fsteps n s)
def feed (s : B32) (x : Int) : B32 := fsteps 8 (s ^^^ BitVec.ofInt 32 x)
def feeds (s : B32) (xs : List Int) : B32 := xs.foldl feed s
def crc (xs : List Int) : B32 := ~~~ (feeds (~~~ 0#32) xs)
theorem shr_xor (a b : B32) : (a ^^^ b) >>> 1 = (a >>> 1) ^^^ (b >>> 1) := by
  apply BitVec.eq_of_getLsbD_eq
  intro i hi
  simp [BitVec.getLsbD_ushiftRight, BitVec.getLsbD_xor]
theorem fstep_xor (a b : B32) : fstep (a ^^^ b) = fstep a ^^^ fstep b := by
  unfold fstep
  rw [BitVec.getLsbD_xor, shr_xor]
  cases a.getLsbD 0 <;> cases b.getLsbD 0
  · simp
  · simp [BitVec.xor_assoc]
  · simp only [Bool.xor_false, if_true, Bool.false_eq_true, if_false]
    ac_rfl
  · simp only [Bool.xor_self, Bool.false_eq_true, if_false, if_true]
    have : (a >>> 1 ^^^ fpoly) ^^^ (b >>> 1 ^^^ fpoly) = (a >>> 1 ^^^ b >>> 1) ^^^ (fpoly ^^^ fpoly) := by ac_rfl
    rw [this, BitVec.xor_self, BitVec.xor_zero]
theorem feeds_append (s : B32) (xs ys : List Int) : feeds s (xs ++ ys) = feeds (feeds s xs) ys := by simp [feeds]
/-! ### The bits, as the walk spells them -/
end Go.Proofs.Ytckdkbjobipniaa

/- The document's sum, bit by bit, is the register's. -/
set_option linter.unusedVariables false
set_option linter.unusedSimpArgs false
namespace Go.Proofs.Ytckdkbjobipniaa
/-- A bit, as a register. -/
def bit0 (b : Bool) : B32 := if b then 1#32 else 0#32
theorem bit0_get (b : Bool) (k : Nat) : (bit0 b).getLsbD k = (b && decide (k = 0)) := by
  unfold bit0
  cases b
  · simp
  · cases k with
    | zero => rfl
    | succ k =>
      simp only [if_true, BitVec.getLsbD_one]
      simp
/-- One bit more of a text. -/
def rstep (s : B32) (b : Bool) : B32 := fstep (s ^^^ bit0 b)
theorem fstep_get (s : B32) (k : Nat) : (fstep s).getLsbD k = (s.getLsbD (k + 1) ^^ (s.getLsbD 0 && fpoly.getLsbD k)) := by
  unfold fstep
  split
  · rename_i h
    rw [BitVec.getLsbD_xor, BitVec.getLsbD_ushiftRight, h, Nat.add_comm]; rfl
  · rename_i h
    have h : s.getLsbD 0 = false := by simpa using h
    rw [BitVec.getLsbD_ushiftRight, h, Nat.add_comm]; simp
theorem rstep_get (s : B32) (b : Bool) (k : Nat) : (rstep s b).getLsbD k = (s.getLsbD (k + 1) ^^ ((s.getLsbD 0 ^^ b) && fpoly.getLsbD k)) := by
  unfold rstep
  rw [fstep_get, BitVec.getLsbD_xor, BitVec.getLsbD_xor, bit0_get, bit0_get]
  simp
/-- The first n bits of y. -/
def rsteps : Nat → B32 → B32 → B32
  | 0, s, _ => s
  | n + 1, s, y => rstep (rsteps n s y) (y.getLsbD n)
theorem split0 (z : B32) : ∃ h : B32, z = bit0 (z.getLsbD 0) ^^^ h ∧ fstep h = z >>> 1 := by
  refine ⟨bit0 (z.getLsbD 0) ^^^ z, by rw [← BitVec.xor_assoc, BitVec.xor_self, BitVec.zero_xor], ?_⟩
  have h0 : (bit0 (z.getLsbD 0) ^^^ z).getLsbD 0 = false := by rw [BitVec.getLsbD_xor, bit0_get]; simp
  unfold fstep
  rw [h0]
  simp only [Bool.false_eq_true, if_false]
  apply BitVec.eq_of_getLsbD_eq
  intro i hi
  rw [BitVec.getLsbD_ushiftRight, BitVec.getLsbD_ushiftRight, BitVec.getLsbD_xor, bit0_get]
  have : decide (1 + i = 0) = false := by simp
  rw [this, Bool.and_false, Bool.false_xor]
theorem fsteps_rsteps (n : Nat) (s y : B32) : fsteps n (s ^^^ y) = rsteps n s y ^^^ (y >>> n) := by
  induction n with
  | zero => simp [fsteps, rsteps]
  | succ n ih =>
    obtain ⟨h, hz, hs⟩ := split0 (y >>> n)
    have hg : (y >>> n).getLsbD 0 = y.getLsbD n := by rw [BitVec.getLsbD_ushiftRight]; rfl
    have e1 : fsteps n (s ^^^ y) = (rsteps n s y ^^^ bit0 (y.getLsbD n)) ^^^ h := by
      rw [ih, BitVec.xor_assoc, ← hg, ← hz]
    show fstep (fsteps n (s ^^^ y)) = rstep (rsteps n s y) (y.getLsbD n) ^^^ (y >>> (n + 1))
    rw [e1, fstep_xor, hs]
    unfold rstep
    rw [← BitVec.shiftRight_add]
/-- Bit i of some bytes. -/
def tbit (xs : List Int) (i : Nat) : Bool := ((xs.getD (i / 8) 0).toNat).testBit (i % 8)
/-- The register behind i bits. -/
def rbits (s : B32) (xs : List Int) : Nat → B32
  | 0 => s
  | i + 1 => rstep (rbits s xs i) (tbit xs i)
theorem ofInt_get (x : Int) (h : 0 ≤ x ∧ x ≤ 255) (j : Nat) (hj : j < 8) : (BitVec.ofInt 32 x).getLsbD j = x.toNat.testBit j := by
  obtain ⟨n, rfl⟩ : ∃ n : Nat, x = n := ⟨x.toNat, by omega⟩
  rw [BitVec.ofInt_natCast, BitVec.getLsbD_ofNat, Int.toNat_natCast]
  simp only [show j < 32 by omega, decide_true, Bool.true_and]
theorem ofInt_shr (x : Int) (h : 0 ≤ x ∧ x ≤ 255) : (BitVec.ofInt 32 x) >>> 8 = 0#32 := by
  obtain ⟨n, rfl⟩ : ∃ n : Nat, x = n := ⟨x.toNat, by omega⟩
  apply BitVec.eq_of_toNat_eq
  rw [BitVec.ofInt_natCast, BitVec.toNat_ushiftRight, BitVec.toNat_ofNat, Nat.mod_eq_of_lt (by omega), Nat.shiftRight_eq_div_pow]
  simp
  omega
theorem rbits_in (s : B32) (xs : List Int) (j : Nat) (x : Int) (hx : xs[j]? = some x) (h : 0 ≤ x ∧ x ≤ 255) (n : Nat) (hn : n ≤ 8) : rbits s xs (j * 8 + n) = rsteps n (rbits s xs (j * 8)) (BitVec.ofInt 32 x) := by
  induction n with
  | zero => rfl
  | succ n ih =>
    show rstep (rbits s xs (j * 8 + n)) (tbit xs (j * 8 + n)) = rstep _ _
    rw [ih (by omega), ofInt_get x h n (by omega)]
    unfold tbit
    rw [show (j * 8 + n) / 8 = j by omega, show (j * 8 + n) % 8 = n by omega, List.getD_eq_getElem?_getD, hx]
    rfl
theorem rbits_bytes (s : B32) (xs : List Int) (hr : ∀ x ∈ xs, 0 ≤ x ∧ x ≤ 255) (j : Nat) (hj : j ≤ xs.length) : rbits s xs (j * 8) = feeds s (xs.take j) := by
  induction j with
  | zero => simp [rbits, feeds]
  | succ j ih =>
    obtain ⟨x, hx⟩ : ∃ x, xs[j]? = some x := ⟨_, List.getElem?_eq_getElem (by omega)⟩
    have hm := hr x (List.mem_of_getElem? hx)
    rw [show (j + 1) * 8 = j * 8 + 8 by omega, rbits_in s xs j x hx hm 8 (Nat.le_refl _), ih (by omega), List.take_add_one, hx]
    have h1 := fsteps_rsteps 8 (feeds s (xs.take j)) (BitVec.ofInt 32 x)
    rw [ofInt_shr x hm, BitVec.xor_zero] at h1
    rw [← h1]
    simp [feeds, feed]
theorem rbits_crc (xs : List Int) (hr : ∀ x ∈ xs, 0 ≤ x ∧ x ≤ 255) : ~~~ (rbits (~~~ 0#32) xs (xs.length * 8)) = crc xs := by
  rw [rbits_bytes _ xs hr xs.length (Nat.le_refl _), List.take_of_length_le (Nat.le_refl _)]
  rfl
/-- A bit as a number. -/
def bitI (b : Bool) : Int := if b then 1 else 0
theorem bitI_range (b : Bool) : 0 ≤ bitI b ∧ bitI b ≤ 1 := by cases b <;> simp [bitI]
theorem bitI_xor (a b : Bool) : (bitI a + bitI b) % 2 = bitI (a ^^ b) := by cases a <;> cases b <;> rfl
theorem bitI_and (a b : Bool) : bitI a * bitI b = bitI (a && b) := by cases a <;> cases b <;> rfl
theorem tbit_num (xs : List Int) (i : Nat) (x : Int) (hx : xs[i / 8]? = some x) (h0 : 0 ≤ x) : x / 2 ^ (i % 8) % 2 = bitI (tbit xs i) := by
  obtain ⟨n, rfl⟩ : ∃ n : Nat, x = n := ⟨x.toNat, by omega⟩
  unfold tbit
  rw [List.getD_eq_getElem?_getD, hx]
  have e1 : ((some (n : Int)).getD 0).toNat = n := rfl
  rw [e1]
  have : ((n : Int) / 2 ^ (i % 8) % 2) = ((n / 2 ^ (i % 8) % 2 : Nat) : Int) := by push_cast; rfl
  rw [this]
  have h2 : n / 2 ^ (i % 8) % 2 < 2 := Nat.mod_lt _ (by decide)
  have h3 : n.testBit (i % 8) = decide (n / 2 ^ (i % 8) % 2 = 1) := Nat.testBit_eq_decide_div_mod_eq
  by_cases h : n / 2 ^ (i % 8) % 2 = 1
  · rw [h3, h]; rfl
  · have h4 : n / 2 ^ (i % 8) % 2 = 0 := by omega
    rw [h3, h4]; rfl
/-- The register as 32 numbers. -/
def bitsI (s : B32) : List Int := (List.range 32).map fun k => bitI (s.getLsbD k)
theorem bitsI_len (s : B32) : (bitsI s).length = 32 := by simp [bitsI]
theorem bitsI_at (s : B32) (k : Nat) (hk : k < 32) : (bitsI s)[k]? = some (bitI (s.getLsbD k)) := by simp [bitsI, hk]
/-- The first k bits of a register, as a number. -/
def lowN (s : B32) (k : Nat) : Int := ((s.toNat % 2 ^ k : Nat) : Int)
theorem lowN_succ (s : B32) (k : Nat) : lowN s (k + 1) = lowN s k + (if s.getLsbD k then 2 ^ k else 0) := by
  unfold lowN
  have h1 : s.toNat % 2 ^ (k + 1) = s.toNat % 2 ^ k + 2 ^ k * (s.toNat / 2 ^ k % 2) := by
    rw [Nat.pow_succ, Nat.mod_mul]
  have h3 : s.getLsbD k = decide (s.toNat / 2 ^ k % 2 = 1) := Nat.testBit_eq_decide_div_mod_eq
  have h2 : s.toNat / 2 ^ k % 2 < 2 := Nat.mod_lt _ (by decide)
  rw [h1, h3]
  by_cases h : s.toNat / 2 ^ k % 2 = 1
  · rw [h]; simp
  · have h4 : s.toNat / 2 ^ k % 2 = 0 := by omega
    rw [h4]; simp
theorem lowN_full (s : B32) : lowN s 32 = (s.toNat : Int) := by
  unfold lowN
  rw [Nat.mod_eq_of_lt s.isLt]
theorem lowN_lt (s : B32) (k : Nat) : 0 ≤ lowN s k ∧ lowN s k < 2 ^ k := by
  unfold lowN
  have := Nat.mod_lt s.toNat (Nat.two_pow_pos k)
  refine ⟨by omega, by exact_mod_cast this⟩
end Go.Proofs.Ytckdkbjobipniaa

/- The frame's functions: the sum, a number's four bytes, and back. -/
set_option linter.unusedVariables false
set_option linter.unusedSimpArgs false
namespace Go.Proofs.Ytckdkbjobipniaa
open Go.RowKit Go.Proofs.YtckdkbjobipniaaW.PrintWords Go.Proofs.YtckdkbjobipniaaW.PrintLast
/-! ### The bits, as the walk spells them -/
theorem bxor32 (a b : B32) : Go.bits .xor .u32 (a.toNat : Int) (b.toNat : Int) = ((a ^^^ b).toNat : Int) := by
  simp only [Go.bits, BitVec.ofInt_natCast]
  have e : ∀ x : B32, BitVec.ofNat IntKind.u32.bits x.toNat = x := fun x => BitVec.ofNat_toNat (m := 32) x
  rw [e a, e b, IntKind.wrap_u32]
  show ((a ^^^ b : B32).toNat : Int) % 4294967296 = ((a ^^^ b : B32).toNat : Int)
  have := (a ^^^ b : B32).isLt
  omega
theorem bxor32x (a : B32) (x : Int) : Go.bits .xor .u32 (a.toNat : Int) (x % 4294967296) = ((a ^^^ BitVec.ofInt 32 x).toNat : Int) := by
  have h : x % 4294967296 = ((BitVec.ofInt 32 x).toNat : Int) := by
    rw [BitVec.toNat_ofInt]; omega
  rw [h, bxor32]
theorem band32 (a : B32) : Go.bits .and .u32 (a.toNat : Int) 1 = bitI (a.getLsbD 0) := by
  have h := bits_mask .u32 32 (by decide) (fun n h0 h1 => by rw [IntKind.wrap_u32]; omega) 1 (by decide) (a.toNat : Int) (by omega) (by have := a.isLt; omega)
  have h2 : ((2 : Int) ^ 1 - 1) = 1 := rfl
  rw [h2] at h
  rw [h]
  have h3 : a.getLsbD 0 = decide (a.toNat / 2 ^ 0 % 2 = 1) := Nat.testBit_eq_decide_div_mod_eq
  rw [h3, Nat.pow_zero, Nat.div_one]
  unfold bitI
  by_cases h : a.toNat % 2 = 1
  · simp [h]; omega
  · simp [h]; omega
theorem shr32 (a : B32) : ((a.toNat : Nat) : Int) / (2 : Int) = ((a >>> 1).toNat : Int) := by
  rw [BitVec.toNat_ushiftRight, Nat.shiftRight_eq_div_pow]; simp
theorem xpoly (a : B32) : Go.bits .xor .u32 ((a.toNat : Int) / 2) 2197175160 = (((a >>> 1) ^^^ fpoly).toNat : Int) := by
  rw [shr32]
  exact bxor32 (a >>> 1) fpoly
theorem not32 (a : B32) : Go.bits .xor .u32 4294967295 (a.toNat : Int) = ((~~~ a).toNat : Int) := by
  have h := bxor32 (~~~ 0#32) a
  have e : ((~~~ 0#32 : B32).toNat : Int) = 4294967295 := by decide
  rw [e] at h
  rw [h]
  congr 2
theorem not32m (a : B32) : Go.bits .xor .u32 IntKind.u32.max (a.toNat : Int) = ((~~~ a).toNat : Int) := not32 a
theorem feeds_snoc (s : B32) (xs : List Int) (x : Int) : feeds s (xs ++ [x]) = feed (feeds s xs) x := by simp [feeds]
set_option maxHeartbeats 1600000 in
set_option maxRecDepth 100000 in
theorem fsum_ok (w : World) (A : Option Addr) (n c : Nat) (parts : List (List Int)) (hC : (Kd.slice 5 (Kd.int .u8)).C w A n parts) :
    Calls Try.prog 126 #[.slice A n c] w fun e w' => e = .returned (.int .u32 ((crc parts.flatten).toNat : Int)) ∧ w' = w := by
  have HC := Aside0.mk hC
  have hn : parts.length = n := hC.1
  have hm := hC.2.1
  have HN := Aside0.mk hn
  clear hC hn
  go_enter Try.func126, Try.ntmps126
  go_wp2
  go_loop [3, 10] (fun s i => ∃ k : Nat, k ≤ n ∧ i = .int .i64 k ∧ s = .int .u32 ((feeds (~~~ 0#32) (parts.take k).flatten).toNat : Int)) (fun _ i => n - (intOf i).toNat)
  case atStart => exact ⟨0, Nat.zero_le _, rfl, rfl⟩
  case round =>
    obtain ⟨k, hk, rfl, rfl⟩ := hrel
    by_cases hlt : k < n
    · obtain ⟨ad, A', c', x, e1, hcell, _, hx, hxC⟩ := C_row_at HC.out k hlt
      subst e1
      have HXL := hxC.out.2.1
      obtain ⟨nx, hnx⟩ : ∃ nx, nx = x.length := ⟨_, rfl⟩
      rw [← hnx] at hcell HXL
      have NX := Aside0.mk hnx
      clear hnx
      obtain ⟨s0, hs0⟩ : ∃ s0, s0 = feeds (~~~ 0#32) (parts.take k).flatten := ⟨_, rfl⟩
      rw [← hs0]
      have S0 := Aside0.mk hs0
      clear hs0
      go_wp2
      go_loop [3, 16] (fun s i => ∃ j : Nat, j ≤ nx ∧ i = .int .i64 j ∧ s = .int .u32 ((feeds s0 (x.take j)).toNat : Int)) (fun _ i => nx - (intOf i).toNat)
      case atStart => exact ⟨0, Nat.zero_le _, rfl, rfl⟩
      case round =>
        obtain ⟨j, hj, rfl, rfl⟩ := hrel
        by_cases hlj : j < nx
        · obtain ⟨bd, y, e2, hcy, hy⟩ := C_scalar_at hxC.out j (by rw [← NX.out]; exact hlj)
          subst e2
          obtain ⟨s1, hs1⟩ : ∃ s1, s1 = feeds s0 (x.take j) := ⟨_, rfl⟩
          rw [← hs1]
          have S1 := Aside0.mk hs1
          have hx32 := bxor32x s1 y
          clear hs1
          go_wp2
          go_loop [3, 24] (fun s i => ∃ m : Nat, m ≤ 8 ∧ i = .int .i64 m ∧ s = .int .u32 ((fsteps m (s1 ^^^ BitVec.ofInt 32 y)).toNat : Int)) (fun _ i => 8 - (intOf i).toNat)
          case atStart => exact ⟨0, Nat.zero_le _, rfl, rfl⟩
          case round =>
            obtain ⟨m, hm8, rfl, rfl⟩ := hrel
            obtain ⟨t, ht⟩ : ∃ t, t = fsteps m (s1 ^^^ BitVec.ofInt 32 y) := ⟨_, rfl⟩
            rw [← ht]
            have T := Aside0.mk ht
            clear ht hx32
            by_cases hlm : m < 8
            · have hb := band32 t
              have hp := xpoly t
              have hs := shr32 t
              cases hbit : t.getLsbD 0
              · have hst : fstep t = t >>> 1 := by unfold fstep; rw [hbit]; rfl
                rw [hbit] at hb
                have hb1 : bitI false = 0 := rfl
                rw [hb1] at hb
                have HST := Aside0.mk hst
                clear hst hbit hb1 hp
                go_wp2
                go_round
                case rel => exact ⟨m + 1, by omega, by go_num, by show _ = Value.int _ ((fstep (fsteps m _)).toNat : Int); rw [← T.out, HST.out]; first | rfl | rw [shr32]⟩
                case measure => simp [intOf]; omega
              · have hst : fstep t = (t >>> 1) ^^^ fpoly := by unfold fstep; rw [hbit]; rfl
                rw [hbit] at hb
                have hb1 : bitI true = 1 := rfl
                rw [hb1] at hb
                have HST := Aside0.mk hst
                clear hst hbit hb1 hs
                go_wp2
                go_round
                case rel => exact ⟨m + 1, by omega, by go_num, by show _ = Value.int _ ((fstep (fsteps m _)).toNat : Int); rw [← T.out, HST.out]; first | rfl | rw [shr32]⟩
                case measure => simp [intOf]; omega
            · have hm9 : m = 8 := by omega
              subst hm9
              go_wp2
              go_round
              case rel => exact ⟨j + 1, by omega, by go_num, by rw [take_snoc_of hy.out, feeds_snoc, ← S1.out, T.out]; rfl⟩
              case measure => simp [intOf]; omega
        · have hj2 : j = nx := by omega
          subst hj2
          go_wp2
          go_round
          case rel => exact ⟨k + 1, by omega, by go_num, by rw [flat_snoc_of hx.out, feeds_append, ← S0.out, List.take_of_length_le (by rw [NX.out]; omega)]⟩
          case measure => simp [intOf]; omega
    · have ek : parts.take k = parts := List.take_of_length_le (by rw [HN.out]; omega)
      rw [ek]
      clear ek
      go_wp2
      go_ret
      exact ⟨congrArg (fun z => Ending.returned (Value.int .u32 z)) (not32m _), rfl⟩
end Go.Proofs.Ytckdkbjobipniaa

/- The frame's functions: a number's four bytes, and back; Seal. -/
set_option linter.unusedVariables false
set_option linter.unusedSimpArgs false
namespace Go.Proofs.Ytckdkbjobipniaa
open Go.RowKit Go.Proofs.YtckdkbjobipniaaW.PrintWords Go.Proofs.YtckdkbjobipniaaW.PrintLast
/-- A number's four bytes, the highest first; and back. -/
def be4 (n : Int) : List Int := [n / 16777216 % 256, n / 65536 % 256, n / 256 % 256, n % 256]
def rd4 (xs : List Int) : Int := (xs.take 4).foldl (fun n x => n * 256 + x) 0
def isB (xs : List Int) : Prop := ∀ x ∈ xs, 0 ≤ x ∧ x ≤ 255
theorem be4_len (n : Int) : (be4 n).length = 4 := rfl
theorem be4_isB (n : Int) : isB (be4 n) := by
  intro x hx
  simp only [be4, List.mem_cons, List.not_mem_nil, or_false] at hx
  rcases hx with rfl | rfl | rfl | rfl <;> omega
theorem rd4_be4 (n : Int) (h0 : 0 ≤ n) (h1 : n < 4294967296) (ys : List Int) : rd4 (be4 n ++ ys) = n := by
  simp only [rd4, be4, List.cons_append, List.nil_append, List.take_succ_cons, List.take_zero, List.foldl_cons, List.foldl_nil]
  omega
theorem foldl_bound (xs : List Int) (h : isB xs) : ∀ (k : Nat), k ≤ 4 → 0 ≤ (xs.take k).foldl (fun n x => n * 256 + x) 0 ∧ (xs.take k).foldl (fun n x => n * 256 + x) 0 < 256 ^ k := by
  intro k
  induction k with
  | zero => intro _; simp
  | succ k ih =>
    intro hk
    have ih := ih (by omega)
    by_cases hx : k < xs.length
    · rw [take_snoc_of (List.getElem?_eq_getElem hx), List.foldl_append]
      have hb := h xs[k] (List.getElem_mem hx)
      simp only [List.foldl_cons, List.foldl_nil]
      have hp : (256 : Int) ^ (k + 1) = 256 ^ k * 256 := by rw [Int.pow_succ]
      omega
    · rw [show xs.take (k + 1) = xs.take k by rw [List.take_of_length_le (by omega), List.take_of_length_le (by omega)]]
      have hp : (256 : Int) ^ (k + 1) = 256 ^ k * 256 := by rw [Int.pow_succ]
      omega
theorem rd4_range (xs : List Int) (h : isB xs) : 0 ≤ rd4 xs ∧ rd4 xs < 4294967296 := foldl_bound xs h 4 (Nat.le_refl _)
theorem be4_rd4 (a b c d : Int) (ys : List Int) (h : isB (a :: b :: c :: d :: ys)) : be4 (rd4 (a :: b :: c :: d :: ys)) = [a, b, c, d] := by
  have ha := h a (by simp)
  have hb := h b (by simp)
  have hc := h c (by simp)
  have hd := h d (by simp)
  simp only [rd4, be4, List.take_succ_cons, List.take_zero, List.foldl_cons, List.foldl_nil]
  refine List.cons_eq_cons.2 ⟨by omega, List.cons_eq_cons.2 ⟨by omega, List.cons_eq_cons.2 ⟨by omega, List.cons_eq_cons.2 ⟨by omega, rfl⟩⟩⟩⟩
theorem be4_rd4_take (xs : List Int) (hl : 4 ≤ xs.length) (h : isB xs) : be4 (rd4 xs) = xs.take 4 := by
  match xs, hl with
  | a :: b :: c :: d :: ys, _ => rw [be4_rd4 a b c d ys h]; rfl
section
variable {w0 w : World} {F : HP}
set_option maxHeartbeats 800000 in
theorem fnumber_ok (n : Int) (h0 : 0 ≤ n) (h1 : n < 4294967296) (h : Hw w0 w F) :
    Calls Try.prog 125 #[.int .u32 n] w fun e w' => ∃ g, e = .returned (.slice (some ⟨g, 0, none⟩) 4 4) ∧ Hw w0 w' (row (Kd.int .u8) 5 (.slice (some ⟨g, 0, none⟩) 4 4) (be4 n) * F) := by
  have H := Aside0.mk h
  clear h
  go_enter Try.func125, Try.ntmps125
  go_wp2
  go_ret
  have e1 : n / 16777216 % 256 = n / 16777216 := by omega
  exact ⟨_, rfl, Hw.row_of_blk (xs := be4 n) (enc := Value.int .u8) (h1 := fun _ => rfl) rfl (by decide) ((H.out.alloc (.cells #[.int .u8 (n / 16777216), .int .u8 (n / 65536 % 256), .int .u8 (n / 256 % 256), .int .u8 (n % 256)] 5)).as (by rw [show be4 n = [n / 16777216, n / 65536 % 256, n / 256 % 256, n % 256] by rw [be4, e1]]; rfl))⟩
set_option maxHeartbeats 800000 in
set_option maxRecDepth 100000 in
theorem fread_ok (w : World) (A : Option Addr) (n c : Nat) (xs : List Int) (hC : (Kd.int .u8).C w A n xs) (h4 : 4 ≤ n) (hc : n ≤ c) (hb : isB xs) :
    Calls Try.prog 137 #[.slice A n c] w fun e w' => e = .returned (.int .u32 (rd4 xs)) ∧ w' = w := by
  obtain ⟨inf, hinf, hiz⟩ := info_parts (P := Try.prog) (e := 5) (by kernel_rfl : (Try.prog.info? 5).map (fun i => (i.zero, i.size, i.bytes)) = some (some (.int .u8 0), 1, 1))
  obtain ⟨hrun, hC4⟩ := sl_take (Kd.int .u8) 28 5 Try.underlying28 hinf A n c 4 4 rfl h4 hc
  have HC := Aside0.mk (hC4 w xs hC)
  have HB := Aside0.mk hb
  have hlen : xs.length = n := hC.1
  have HL := Aside0.mk hlen
  have hfb := Aside0.mk (foldl_bound xs hb)
  clear hC4 hC hb hiz hinf hlen
  go_enter Try.func137, Try.ntmps137
  go_wp2
  go_loop [3, 9] (fun s i => ∃ k : Nat, k ≤ 4 ∧ i = .int .i64 k ∧ s = .int .u32 ((xs.take k).foldl (fun n x => n * 256 + x) 0)) (fun _ i => 4 - (intOf i).toNat)
  case atStart => exact ⟨0, Nat.zero_le _, rfl, rfl⟩
  case round =>
    obtain ⟨k, hk, rfl, rfl⟩ := hrel
    by_cases hlt : k < 4
    · obtain ⟨ad, x, e1, hcell, hx⟩ := C_scalar_at HC.out k hlt
      subst e1
      have hx2 : xs[k]? = some x := by
        have := hx.out
        rw [List.getElem?_take, if_pos hlt] at this
        exact this
      have hxb := HB.out x (List.mem_of_getElem? hx2)
      have hv := hfb.out k (by omega)
      obtain ⟨v, hvv⟩ : ∃ v, v = (xs.take k).foldl (fun n x => n * 256 + x) 0 := ⟨_, rfl⟩
      rw [← hvv] at hv ⊢
      have hp : (256 : Int) ^ k ≤ 256 ^ 3 := by exact_mod_cast Nat.pow_le_pow_right (n := 256) (by decide) (show k ≤ 3 by omega)
      have hv2 : v < 16777216 := by have : (256 : Int) ^ 3 = 16777216 := by decide
                                    omega
      have hv0 := hv.1
      have e1 : v * 256 % 4294967296 = v * 256 := by omega
      have e2 : x % 4294967296 = x := by omega
      have e3 : Go.bits .or .u32 (v * 256) x = v * 256 + x := bits_join .u32 32 (by decide) (fun n h0 h1 => by rw [IntKind.wrap_u32]; omega) 8 (v * 256) x (by omega) (by omega) (by omega) hxb.1 (by omega) (by omega)
      have V := Aside0.mk hvv
      have X := Aside0.mk hx2
      clear hvv hx2 hv hp
      go_wp2
      go_round
      case rel => exact ⟨k + 1, by omega, by go_num, by rw [take_snoc_of X.out, List.foldl_append, ← V.out]; first | rfl | (simp only [e1, e2, e3]; rfl)⟩
      case measure => simp [intOf]; omega
    · have hk4 : k = 4 := by omega
      subst hk4
      go_wp2
      go_ret
      exact ⟨rfl, rfl⟩
/-- The frame of a payload. -/
def sealOf (xs : List Int) : List Int := be4 xs.length ++ be4 ((crc (be4 xs.length ++ xs)).toNat : Int) ++ xs
theorem sealOf_len (xs : List Int) : (sealOf xs).length = 8 + xs.length := by simp [sealOf, be4_len]; omega
theorem crc_range (xs : List Int) : 0 ≤ ((crc xs).toNat : Int) ∧ ((crc xs).toNat : Int) < 4294967296 := by
  have := (crc xs).isLt
  omega
theorem Try.finfoU8 : (Try.prog.info? 5).map (fun i => (i.zero, i.size, i.bytes)) = some (some (.int .u8 0), 1, 1) := by kernel_rfl
set_option maxHeartbeats 1600000 in
set_option maxRecDepth 100000 in
theorem fseal_ok (A : Option Addr) (n c : Nat) (xs : List Int) (hn : n ≤ 16384) (hc : n ≤ c) (h : Hw w0 w F) (hE : Ent w0 F (fun w => (Kd.int .u8).C w A n xs)) :
    Calls Try.prog 82 #[.slice A n c] w fun e w' => ∃ A' n' c', e = .returned (.tuple #[.slice A' n' c', .int .i64 0]) ∧ Hw w0 w' (row (Kd.int .u8) 5 (.slice A' n' c') (sealOf xs) * F) := by
  have hl : xs.length = n := (hE w h).1
  have HL := Aside0.mk hl
  have H := Aside0.mk h
  have HE := Aside0.mk hE
  have d1 : decide ((16384 : Int) < n) = false := decide_eq_false (by omega)
  have d2 : decide (16384 < n) = false := decide_eq_false (by omega)
  have e0 : (n : Int) % 4294967296 = n := by omega
  clear h hE hl
  go_enter Try.func82, Try.ntmps82
  go_wp2_with fail
  refine (fnumber_ok (n : Int) (by omega) (by omega) H.out).mono ?_
  rintro e w1 ⟨g1, rfl, h1⟩
  have H1 := Aside0.mk h1
  clear h1 H d1 d2 e0
  go_wp2_with fail
  have HB := Aside0.mk (H1.out.alloc (.cells #[.slice (some ⟨g1, 0, none⟩) 4 4, .slice A n c] 28))
  refine (fsum_ok _ _ 2 2 [be4 n, xs] (C_lit2 (n := 4) (m := n) HB.out.blk_at.1 rfl (by omega) (HB.out.right.row_C.2.2) HL.out.symm hc (HE.out _ HB.out.right.right))).mono ?_
  rintro e w2 ⟨rfl, rfl⟩
  obtain ⟨s, hs⟩ : ∃ s : Int, s = ((crc (be4 n ++ xs)).toNat : Int) := ⟨_, rfl⟩
  have es : ((crc ([be4 (n : Int), xs] : List (List Int)).flatten).toNat : Int) = s := by rw [hs]; simp
  rw [es]
  have hsr := crc_range (be4 n ++ xs)
  rw [← hs] at hsr
  have S := Aside0.mk hs
  clear hs es
  go_wp2_with fail
  refine (fnumber_ok s hsr.1 hsr.2 HB.out).mono ?_
  rintro e w3 ⟨g2, rfl, h3⟩
  have H3 := Aside0.mk h3
  have HC3 := Aside0.mk h3.row_C.2.2
  have H3' := Aside0.mk (h3.atR (Kd.int .u8) 5 (.slice (some ⟨g1, 0, none⟩) 4 4))
  clear h3 H1 HB hsr
  go_wp2_with (first | (at_builtin; refine Hw.append_row (Value.int .u8) (0 : Int) rfl (.tmp 13) (.tmp 18) 28 5 (.int .u8 0) 1 rfl Try.underlying28 Try.finfoU8 rfl (by decide) _ (be4 n) (be4 s) _ 4 4 rfl rfl H3'.out HC3.out (by rw [be4_len]; decide) ?_; intro A1 n1 c1 w4 hn1 hw4; have H4 := Aside0.mk hw4; have HC4 := Aside0.mk (HE.out _ hw4.right.right.right); clear hw4) | (at_builtin; refine Hw.append_row (Value.int .u8) (0 : Int) rfl (.tmp 20) (.tmp 21) 28 5 (.int .u8 0) 1 rfl Try.underlying28 Try.finfoU8 rfl (by decide) _ (be4 n ++ be4 s) xs _ n c rfl rfl H4.out HC4.out (by rw [List.length_append, be4_len, be4_len]; omega) ?_; intro A2 n2 c2 w5 hn2 hw5; have H5 := Aside0.mk hw5; clear hw5))
  go_ret2
  refine ⟨A2, n2, c2, rfl, ?_⟩
  have e6 : sealOf xs = be4 n ++ be4 s ++ xs := by unfold sealOf; rw [HL.out, S.out]
  rw [e6]
  exact (H5.out.dropR (Kd.int .u8) 5 (.slice (some ⟨g2, 0, none⟩) 4 4)).dropB w1.heap.size
end
end Go.Proofs.Ytckdkbjobipniaa

/- The frame's functions: Open. -/
set_option linter.unusedVariables false
set_option linter.unusedSimpArgs false
namespace Go.Proofs.Ytckdkbjobipniaa
open Go.RowKit Go.Proofs.YtckdkbjobipniaaW.PrintWords Go.Proofs.YtckdkbjobipniaaW.PrintLast
/-- What is opened: the payload, how many bytes its frame has, the error's number. -/
def openErr (xs : List Int) : Int :=
  if xs.length < 8 then 10 else if 16384 < rd4 xs then 2 else if (xs.length : Int) - 8 < rd4 xs then 10
  else if ((crc (xs.take 4 ++ (xs.take (8 + (rd4 xs).toNat)).drop 8)).toNat : Int) = rd4 (xs.drop 4) then 0 else 11
def openTxt (xs : List Int) : List Int := if openErr xs = 0 then (xs.take (8 + (rd4 xs).toNat)).drop 8 else []
def openEnd (xs : List Int) : Int := if openErr xs = 0 then 8 + rd4 xs else 0
section
variable {w0 w : World} {F : HP}
theorem fopen_short (A : Option Addr) (n c : Nat) (hn : n < 8) :
    Calls Try.prog 124 #[.slice A n c] w fun e w' => e = .returned (.tuple #[.slice none 0 0, .int .i64 0, .int .i64 10]) ∧ w' = w := by
  have d1 : decide ((n : Int) < 8) = true := decide_eq_true (by omega)
  have d2 : decide (n < 8) = true := decide_eq_true (by omega)
  go_enter Try.func124, Try.ntmps124
  go_wp2_with fail
  go_ret3
  exact ⟨rfl, rfl⟩
theorem fopen_long (A : Option Addr) (n c : Nat) (xs : List Int) (hn : 8 ≤ n) (hc : n ≤ c) (hC : (Kd.int .u8).C w A n xs) (hb : isB xs) (hv : 16384 < rd4 xs) :
    Calls Try.prog 124 #[.slice A n c] w fun e w' => e = .returned (.tuple #[.slice none 0 0, .int .i64 0, .int .i64 2]) ∧ w' = w := by
  have d1 : decide ((n : Int) < 8) = false := decide_eq_false (by omega)
  have d2 : decide (n < 8) = false := decide_eq_false (by omega)
  have HC := Aside0.mk hC
  have HB := Aside0.mk hb
  obtain ⟨v, hvv⟩ : ∃ v, v = rd4 xs := ⟨_, rfl⟩
  rw [← hvv] at hv
  have V := Aside0.mk hvv
  have d3 : decide (16384 < v) = true := decide_eq_true hv
  clear hC hb hvv
  go_enter Try.func124, Try.ntmps124
  go_wp2_with fail
  refine (fread_ok w A n c xs HC.out (by omega) hc HB.out).mono ?_
  rintro e w1 ⟨rfl, rfl⟩
  rw [← V.out]
  go_wp2_with fail
  go_ret3
  exact ⟨rfl, rfl⟩
theorem fopen_cut (A : Option Addr) (n c : Nat) (xs : List Int) (hn : 8 ≤ n) (hm : n ≤ 9223372036854775807) (hc : n ≤ c) (hC : (Kd.int .u8).C w A n xs) (hb : isB xs) (hv : rd4 xs ≤ 16384) (hv2 : (n : Int) - 8 < rd4 xs) :
    Calls Try.prog 124 #[.slice A n c] w fun e w' => e = .returned (.tuple #[.slice none 0 0, .int .i64 0, .int .i64 10]) ∧ w' = w := by
  have d1 : decide ((n : Int) < 8) = false := decide_eq_false (by omega)
  have d2 : decide (n < 8) = false := decide_eq_false (by omega)
  have HC := Aside0.mk hC
  have HB := Aside0.mk hb
  have hr := rd4_range xs hb
  obtain ⟨v, hvv⟩ : ∃ v, v = rd4 xs := ⟨_, rfl⟩
  rw [← hvv] at hv hv2 hr
  have V := Aside0.mk hvv
  have d3 : decide (16384 < v) = false := decide_eq_false (by omega)
  have hr0 := hr.1
  have hr1 := hr.2
  have d4 : decide ((n : Int) - 8 < v) = true := decide_eq_true hv2
  clear hC hb hvv hr
  go_enter Try.func124, Try.ntmps124
  go_wp2_with fail
  refine (fread_ok w A n c xs HC.out (by omega) hc HB.out).mono ?_
  rintro e w1 ⟨rfl, rfl⟩
  rw [← V.out]
  go_wp2_with fail
  go_ret3
  exact ⟨rfl, rfl⟩
set_option maxHeartbeats 1600000 in
set_option maxRecDepth 100000 in
theorem fopen_sum (A : Option Addr) (n c : Nat) (xs : List Int) (hn : 8 ≤ n) (hm : n ≤ 140737488355328) (hc : n ≤ c) (h : Hw w0 w F) (hE : Ent w0 F (fun w => (Kd.int .u8).C w A n xs)) (hb : isB xs) (v : Nat) (hv : rd4 xs = v) (hv1 : v ≤ 16384) (hv2 : 8 + v ≤ n) (q : Bool)
    (hq : (((crc (xs.take 4 ++ (xs.take (8 + v)).drop 8)).toNat : Int) != rd4 (xs.drop 4)) = q) :
    Calls Try.prog 124 #[.slice A n c] w fun e w' => (q = true ∧ e = .returned (.tuple #[.slice none 0 0, .int .i64 0, .int .i64 11]) ∧ Hw w0 w' F) ∨ (q = false ∧ ∃ A' n' c', e = .returned (.tuple #[.slice A' n' c', .int .i64 (8 + v), .int .i64 0]) ∧ Hw w0 w' (row (Kd.int .u8) 5 (.slice A' n' c') ((xs.take (8 + v)).drop 8) * F)) := by
  have d1 : decide ((n : Int) < 8) = false := decide_eq_false (by omega)
  have d2 : decide (n < 8) = false := decide_eq_false (by omega)
  have HE := Aside0.mk hE
  have H := Aside0.mk h
  have HB := Aside0.mk hb
  obtain ⟨inf, hinf, hiz0, hiz1, hiz2⟩ := info_parts Try.finfoU8
  obtain ⟨hrun4, hC4⟩ := sl_take (Kd.int .u8) 28 5 Try.underlying28 hinf A n c 4 4 rfl (by omega) hc
  obtain ⟨A8, hrun8, hC8⟩ := sl_mid (Kd.int .u8) 28 5 Try.underlying28 hinf hiz1 A n c 8 (8 + (v : Int)) 8 (8 + v) rfl (by omega) (by omega) hv2 hc
  obtain ⟨A9, hrun9, hC9⟩ := sl_drop (Kd.int .u8) 28 5 Try.underlying28 hinf hiz1 A n c 4 4 rfl (by omega) hc
  rw [show 8 + v - 8 = v by omega] at hrun8 hC8
  have HC4 := Aside0.mk hC4
  have HC8 := Aside0.mk hC8
  have HC9 := Aside0.mk hC9
  have V := Aside0.mk hv
  clear hv
  have d3 : decide ((16384 : Int) < v) = false := decide_eq_false (by omega)
  have d3' : decide (16384 < v) = false := decide_eq_false (by omega)
  have d4 : decide ((n : Int) - 8 < v) = false := decide_eq_false (by omega)
  have e1 : wrap64 (8 + (v : Int)) = 8 + v := by unfold wrap64; omega
  have e2 : wrap64 (v : Int) = v := by unfold wrap64; omega
  have e3 : wrap64 ((n : Int) - 8) = n - 8 := by unfold wrap64; omega
  obtain ⟨s, hs⟩ : ∃ s : Int, s = ((crc (xs.take 4 ++ (xs.take (8 + v)).drop 8)).toNat : Int) := ⟨_, rfl⟩
  obtain ⟨r, hr⟩ : ∃ r : Int, r = rd4 (xs.drop 4) := ⟨_, rfl⟩
  rw [← hs, ← hr] at hq
  have S := Aside0.mk hs
  have R := Aside0.mk hr
  clear h hE hb hC4 hC8 hC9 hiz0 hiz1 hiz2 hinf hs hr
  go_enter Try.func124, Try.ntmps124
  go_wp2_with fail
  refine (fread_ok w A n c xs (HE.out _ H.out) (by omega) hc HB.out).mono ?_
  rintro e w1 ⟨rfl, rfl⟩
  rw [V.out]
  go_upto_region 9 with fail
  have H1 := Aside0.mk H.out
  have hB4 : isB (xs.drop 4) := fun x hx => HB.out x (List.mem_of_mem_drop hx)
  have HB4 := Aside0.mk hB4
  clear hB4
  refine start_ (n := 11) (S := fun w' => True) (ds := []) #[false, false, false, false, false, false, false, false, false, false, false] (by kernel_rfl) rfl rfl trivial (fun hHeld => ?_)
  refine pure_ (i := 0) (N := some 25) (v := ?_) (a' := ?_) #[true, false, false, false, false, false, false, false, false, false, false] rfl rfl (by kernel_rfl) (fun _ _ _ h => h) (Or.inl ⟨by rfl, ?_⟩) ?_ ?_
  rotate_left
  · intro w'
    go_simp
    with_reducible rfl
  rotate_left
  · simp only [Act.put, List.setIfInBounds_toArray, List.set_cons_zero, List.set_cons_succ, i64_w, i32_w]
    rfl
  refine pure_ (i := 1) (N := some 26) (v := ?_) (a' := ?_) #[true, true, false, false, false, false, false, false, false, false, false] rfl rfl (by kernel_rfl) (fun _ _ _ h => h) (Or.inl ⟨by rfl, ?_⟩) ?_ ?_
  rotate_left
  · intro w'
    go_simp
    with_reducible rfl
  rotate_left
  · simp only [Act.put, List.setIfInBounds_toArray, List.set_cons_zero, List.set_cons_succ, i64_w, i32_w]
    rfl
  refine pure_ (i := 2) (N := some 27) (v := ?_) (a' := ?_) #[true, true, true, false, false, false, false, false, false, false, false] rfl rfl (by kernel_rfl) (fun _ _ _ h => h) (Or.inl ⟨by rfl, ?_⟩) ?_ ?_
  rotate_left
  · intro w'
    go_simp
    with_reducible rfl
  rotate_left
  · simp only [Act.put, List.setIfInBounds_toArray, List.set_cons_zero, List.set_cons_succ, i64_w, i32_w]
    rfl
  refine pure_ (i := 3) (N := some 28) (v := ?_) (a' := ?_) #[true, true, true, true, false, false, false, false, false, false, false] rfl rfl (by kernel_rfl) (fun _ _ _ h => h) (Or.inl ⟨by rfl, ?_⟩) ?_ ?_
  rotate_left
  · intro w'
    go_simp
    with_reducible rfl
  rotate_left
  · simp only [Act.put, List.setIfInBounds_toArray, List.set_cons_zero, List.set_cons_succ, i64_w, i32_w]
    rfl
  refine pure_ (i := 4) (N := some 29) (v := ?_) (a' := ?_) #[true, true, true, true, true, false, false, false, false, false, false] rfl rfl (by kernel_rfl) (fun _ _ _ h => h) (Or.inl ⟨by rfl, ?_⟩) ?_ ?_
  rotate_left
  · intro w'
    go_simp
    with_reducible rfl
  rotate_left
  · simp only [Act.put, List.setIfInBounds_toArray, List.set_cons_zero, List.set_cons_succ, i64_w, i32_w]
    rfl
  refine pure_ (i := 7) (N := some 32) (v := ?_) (a' := ?_) #[true, true, true, true, true, false, false, true, false, false, false] rfl rfl (by kernel_rfl) (fun _ _ _ h => h) (Or.inl ⟨by rfl, ?_⟩) ?_ ?_
  rotate_left
  · intro w'
    go_simp
    with_reducible rfl
  rotate_left
  · simp only [Act.put, List.setIfInBounds_toArray, List.set_cons_zero, List.set_cons_succ, i64_w, i32_w]
    rfl
  refine pure_ (i := 8) (N := some 33) (v := ?_) (a' := ?_) #[true, true, true, true, true, false, false, true, true, false, false] rfl rfl (by kernel_rfl) (fun _ _ _ h => h) (Or.inl ⟨by rfl, ?_⟩) ?_ ?_
  rotate_left
  · intro w'
    go_simp
    with_reducible rfl
  rotate_left
  · simp only [Act.put, List.setIfInBounds_toArray, List.set_cons_zero, List.set_cons_succ, i64_w, i32_w]
    rfl
  refine one_ (i := 5) (N := some 30) #[true, true, true, true, true, true, false, true, true, false, false] rfl rfl (by kernel_rfl) (by decide) (fun K hK => ?_)
  refine value_ (w1 := ?_) (v := ?_) (by rfl) rfl ?_ ?_
  rotate_left 2
  · go_simp
    constructor
    · rfl
    · rfl
  have H2n := Aside0.mk (H1.out.alloc (.cells #[.slice A 4 c, .slice A8 v (c - 8)] 28))
  have H2 := Aside0.mk (H1.out.alloc (.cells #[.slice A 4 c, .slice A8 v (c - 8)] 28)).drew
  have HQ4 := Aside0.mk (HC4.out _ _ (HE.out.use H2.out.right))
  have HQ8 := Aside0.mk (HC8.out _ _ (HE.out.use H2.out.right))
  have HQ9 := Aside0.mk (HC9.out _ _ (HE.out.use H2.out.right))
  refine hK.out _ _ trivial (fun hHeld => ?_)
  clear hK K
  refine norm_ (a' := ?_) ?_ ?_
  rotate_left
  · show Act.put _ (some 30) _ = _
    simp only [Act.put, List.setIfInBounds_toArray, List.set_cons_zero, List.set_cons_succ, i64_w, i32_w]
    rfl
  refine one_ (i := 6) (N := some 31) #[true, true, true, true, true, true, true, true, true, false, false] rfl rfl (by kernel_rfl) (by decide) (fun K hK => ?_)
  refine goes_ Try.func126 (by kernel_rfl) rfl #[.slice (some ⟨w1.heap.size, 0, none⟩) 2 2] (by rfl) rfl rfl (by simp only [List.map_toArray, List.map_cons, List.map_nil]; rfl) ?_
  with_reducible refine (fsum_ok _ _ 2 2 [xs.take 4, (xs.take (8 + v)).drop 8] (C_lit2 (n := 4) (m := v) H2.out.blk_at.1 (C_len HQ4.out) (by omega) HQ4.out (C_len HQ8.out) (by omega) HQ8.out)).mono ?_
  rintro e w2 ⟨rfl, rfl⟩
  refine ⟨_, rfl, ?_⟩
  rw [show ((crc ([xs.take 4, (xs.take (8 + v)).drop 8] : List (List Int)).flatten).toNat : Int) = s by rw [S.out]; simp]
  refine hK.out _ _ trivial (fun hHeld => ?_)
  clear hK K
  refine norm_ (a' := ?_) ?_ ?_
  rotate_left
  · show Act.put _ (some 31) _ = _
    simp only [Act.put, List.setIfInBounds_toArray, List.set_cons_zero, List.set_cons_succ, i64_w, i32_w]
    rfl
  refine one_ (i := 9) (N := some 34) #[true, true, true, true, true, true, true, true, true, true, false] rfl rfl (by kernel_rfl) (by decide) (fun K hK => ?_)
  refine goes_ Try.func137 (by kernel_rfl) rfl #[.slice A9 (n - 4) (c - 4)] (by rfl) rfl rfl (by simp only [List.map_toArray, List.map_cons, List.map_nil]; rfl) ?_
  with_reducible refine (fread_ok _ A9 (n - 4) (c - 4) (xs.drop 4) HQ9.out (by omega) (by omega) HB4.out).mono ?_
  rintro e w3 ⟨rfl, rfl⟩
  refine ⟨_, rfl, ?_⟩
  rw [← R.out]
  refine hK.out _ _ trivial (fun hHeld => ?_)
  clear hK K
  refine norm_ (a' := ?_) ?_ ?_
  rotate_left
  · show Act.put _ (some 34) _ = _
    simp only [Act.put, List.setIfInBounds_toArray, List.set_cons_zero, List.set_cons_succ, i64_w, i32_w]
    rfl
  refine pure_ (i := 10) (N := some 35) (v := ?_) (a' := ?_) #[true, true, true, true, true, true, true, true, true, true, true] rfl rfl (by kernel_rfl) (fun _ _ _ h => h) (Or.inl ⟨by rfl, ?_⟩) ?_ ?_
  rotate_left
  · intro w'
    go_simp
    with_reducible rfl
  rotate_left
  · simp only [Act.put, List.setIfInBounds_toArray, List.set_cons_zero, List.set_cons_succ, i64_w, i32_w]
    rfl
  refine done_ (by kernel_rfl) ?_
  cases q
  · clear d1 d2 d3 d3' d4 hrun4 hrun9
    have H3 := Aside0.mk (H2n.out.alloc (.cells ([] : List Value).toArray 5)).drew
    have HC := Aside0.mk (HC8.out _ _ (HE.out.use H3.out.right.right))
    rw [World.size_alloc] at H3
    clear H1 H2 H2n
    go_wp2_with (at_builtin; refine Hw.append_row (Value.int .u8) (0 : Int) rfl (.tmp 36) (.tmp 39) 28 5 (.int .u8 0) 1 rfl Try.underlying28 Try.finfoU8 rfl (by decide) _ [] ((xs.take (8 + v)).drop 8) _ v (c - 8) rfl rfl (Hw.row_of_blk (xs := []) (enc := Value.int .u8) (h1 := fun _ => rfl) rfl (by decide) H3.out) HC.out (by simp; omega) ?_; intro A1 n1 c1 w4 hn1 hw4; have H4 := Aside0.mk hw4; clear hw4)
    go_ret3
    refine ⟨A1, n1, c1, rfl, ?_⟩
    have h4 := H4.out.dropB w1.heap.size
    rw [List.nil_append] at h4
    exact h4
  · clear d1 d2 d3 d3' d4 hrun4 hrun8 hrun9
    have H3 := Aside0.mk H2.out.right
    clear H1 H2 H2n
    go_wp2_with fail
    go_ret3
    exact ⟨rfl, H3.out⟩
/-- Open, whatever it is given. -/
theorem fopen_ok (A : Option Addr) (n c : Nat) (xs : List Int) (hm : n ≤ 140737488355328) (hc : n ≤ c) (h : Hw w0 w F) (hE : Ent w0 F (fun w => (Kd.int .u8).C w A n xs)) (hb : isB xs) :
    Calls Try.prog 124 #[.slice A n c] w fun e w' => ∃ A' n' c', e = .returned (.tuple #[.slice A' n' c', .int .i64 (openEnd xs), .int .i64 (openErr xs)]) ∧ Hw w0 w' (row (Kd.int .u8) 5 (.slice A' n' c') (openTxt xs) * F) := by
  have hl : xs.length = n := (hE w h).1
  have hbad : ∀ c : Int, c ≠ 0 → openErr xs = c → (∃ P : Prop, P) → openTxt xs = [] ∧ openEnd xs = 0 := fun c h0 h1 _ => by
    unfold openTxt openEnd
    rw [h1, if_neg h0, if_neg h0]
    exact ⟨rfl, rfl⟩
  by_cases h1 : n < 8
  · have he : openErr xs = 10 := by unfold openErr; rw [if_pos (by omega)]
    obtain ⟨e1, e2⟩ := hbad 10 (by decide) he ⟨True, trivial⟩
    rw [he, e1, e2]
    refine (fopen_short A n c h1).mono ?_
    rintro e w' ⟨rfl, rfl⟩
    exact ⟨none, 0, 0, rfl, h.row_nil _ _⟩
  · by_cases h2 : 16384 < rd4 xs
    · have he : openErr xs = 2 := by unfold openErr; rw [if_neg (by omega), if_pos h2]
      obtain ⟨e1, e2⟩ := hbad 2 (by decide) he ⟨True, trivial⟩
      rw [he, e1, e2]
      refine (fopen_long A n c xs (by omega) hc (hE w h) hb h2).mono ?_
      rintro e w' ⟨rfl, rfl⟩
      exact ⟨none, 0, 0, rfl, h.row_nil _ _⟩
    · by_cases h3 : (xs.length : Int) - 8 < rd4 xs
      · have he : openErr xs = 10 := by unfold openErr; rw [if_neg (by omega), if_neg h2, if_pos h3]
        obtain ⟨e1, e2⟩ := hbad 10 (by decide) he ⟨True, trivial⟩
        rw [he, e1, e2]
        refine (fopen_cut A n c xs (by omega) (by omega) hc (hE w h) hb (by omega) (by omega)).mono ?_
        rintro e w' ⟨rfl, rfl⟩
        exact ⟨none, 0, 0, rfl, h.row_nil _ _⟩
      · have hr := rd4_range xs hb
        obtain ⟨v, hv⟩ : ∃ v : Nat, rd4 xs = v := ⟨(rd4 xs).toNat, by omega⟩
        have hv1 : v ≤ 16384 := by omega
        have hv2 : 8 + v ≤ n := by omega
        refine (fopen_sum A n c xs (by omega) hm hc h hE hb v hv hv1 hv2 _ rfl).mono ?_
        rintro e w' (⟨hq, rfl, hw⟩ | ⟨hq, A', n', c', rfl, hw⟩)
        · have he : openErr xs = 11 := by
            unfold openErr
            rw [if_neg (by omega), if_neg h2, if_neg h3, hv, Int.toNat_natCast, if_neg (by simpa using hq)]
          obtain ⟨e1, e2⟩ := hbad 11 (by decide) he ⟨True, trivial⟩
          rw [he, e1, e2]
          exact ⟨none, 0, 0, rfl, hw.row_nil _ _⟩
        · have he : openErr xs = 0 := by
            unfold openErr
            rw [if_neg (by omega), if_neg h2, if_neg h3, hv, Int.toNat_natCast, if_pos (by simpa using hq)]
          have e1 : openTxt xs = (xs.take (8 + v)).drop 8 := by unfold openTxt; rw [if_pos he, hv, Int.toNat_natCast]
          have e2 : openEnd xs = 8 + v := by unfold openEnd; rw [if_pos he, hv]
          rw [he, e1, e2]
          exact ⟨A', n', c', rfl, hw⟩
end
end Go.Proofs.Ytckdkbjobipniaa

/- What is sealed is opened again, and the other way round: plain laws. -/
set_option linter.unusedVariables false
set_option linter.unusedSimpArgs false
namespace Go.Proofs.Ytckdkbjobipniaa
theorem open_seal (xs ys : List Int) (hb : isB xs) (hl : xs.length ≤ 16384) : openErr (sealOf xs ++ ys) = 0 ∧ openTxt (sealOf xs ++ ys) = xs ∧ openEnd (sealOf xs ++ ys) = 8 + xs.length := by
  obtain ⟨c, hc⟩ : ∃ c : Int, c = ((crc (be4 xs.length ++ xs)).toNat : Int) := ⟨_, rfl⟩
  have hcr := crc_range (be4 xs.length ++ xs)
  rw [← hc] at hcr
  have e0 : sealOf xs ++ ys = be4 xs.length ++ (be4 c ++ (xs ++ ys)) := by unfold sealOf; rw [← hc]; simp
  rw [e0]
  have e1 : rd4 (be4 xs.length ++ (be4 c ++ (xs ++ ys))) = xs.length := rd4_be4 _ (by omega) (by omega) _
  have e2 : (be4 (xs.length : Int) ++ (be4 c ++ (xs ++ ys))).take 4 = be4 xs.length := List.take_left' rfl
  have e3 : (be4 (xs.length : Int) ++ (be4 c ++ (xs ++ ys))).drop 4 = be4 c ++ (xs ++ ys) := List.drop_left' rfl
  have e4 : ((be4 (xs.length : Int) ++ (be4 c ++ (xs ++ ys))).take (8 + xs.length)).drop 8 = xs := by
    have : be4 (xs.length : Int) ++ (be4 c ++ (xs ++ ys)) = (be4 xs.length ++ be4 c) ++ (xs ++ ys) := by simp
    rw [this, List.drop_take, List.drop_left' (by simp [be4_len]), show 8 + xs.length - 8 = xs.length by omega, List.take_left' rfl]
  have e5 : rd4 (be4 c ++ (xs ++ ys)) = c := rd4_be4 _ hcr.1 hcr.2 _
  have hlen : (be4 (xs.length : Int) ++ (be4 c ++ (xs ++ ys))).length = 8 + xs.length + ys.length := by simp [be4_len]; omega
  have he : openErr (be4 xs.length ++ (be4 c ++ (xs ++ ys))) = 0 := by
    unfold openErr
    rw [e1, Int.toNat_natCast, e2, e3, e4, e5, ← hc, hlen, if_neg (by omega), if_neg (by omega), if_neg (by omega), if_pos rfl]
  refine ⟨he, ?_, ?_⟩
  · unfold openTxt
    rw [if_pos he, e1, Int.toNat_natCast, e4]
  · unfold openEnd
    rw [if_pos he, e1]
theorem open_bad (xs : List Int) (h : openErr xs ≠ 0) : openTxt xs = [] ∧ openEnd xs = 0 := by
  unfold openTxt openEnd
  rw [if_neg h, if_neg h]
  exact ⟨rfl, rfl⟩
/-- What was opened, sealed again. -/
theorem seal_open (xs : List Int) (hb : isB xs) (h : openErr xs = 0) : ∃ v : Nat, rd4 xs = v ∧ v ≤ 16384 ∧ 8 + v ≤ xs.length ∧ openEnd xs = 8 + v ∧ (openTxt xs).length = v ∧ sealOf (openTxt xs) = xs.take (8 + v) := by
  have hr := rd4_range xs hb
  obtain ⟨v, hv⟩ : ∃ v : Nat, rd4 xs = v := ⟨(rd4 xs).toNat, by omega⟩
  have ht : openTxt xs = (xs.take (8 + v)).drop 8 := by unfold openTxt; rw [if_pos h, hv, Int.toNat_natCast]
  have he : openEnd xs = 8 + v := by unfold openEnd; rw [if_pos h, hv]
  unfold openErr at h
  rw [hv, Int.toNat_natCast] at h
  split at h
  · cases h
  · split at h
    · cases h
    · split at h
      · cases h
      · split at h
        · rename_i h1 h2 h3 h4
          have hl : (openTxt xs).length = v := by rw [ht, List.length_drop, List.length_take]; omega
          refine ⟨v, hv, by omega, by omega, he, hl, ?_⟩
          unfold sealOf
          rw [hl, ht]
          have b1 : be4 (v : Int) = xs.take 4 := by rw [← hv]; exact be4_rd4_take xs (by omega) hb
          rw [b1, h4]
          have b2 := be4_rd4_take (xs.drop 4) (by rw [List.length_drop]; omega) (fun x hx => hb x (List.mem_of_mem_drop hx))
          rw [b2]
          have h5 : (xs.take (8 + v)).take 8 ++ (xs.take (8 + v)).drop 8 = xs.take (8 + v) := List.take_append_drop 8 _
          rw [List.take_take, show min 8 (8 + v) = 4 + 4 by omega, List.take_add] at h5
          exact h5
        · cases h
theorem sealOf_isB (xs : List Int) (hb : isB xs) : isB (sealOf xs) := by
  intro x hx
  simp only [sealOf, List.mem_append] at hx
  rcases hx with (hx | hx) | hx
  · exact be4_isB _ x hx
  · exact be4_isB _ x hx
  · exact hb x hx
end Go.Proofs.Ytckdkbjobipniaa

/- The frame's functions: Cut. -/
set_option linter.unusedVariables false
set_option linter.unusedSimpArgs false
namespace Go.Proofs.Ytckdkbjobipniaa
open Go.RowKit Go.Proofs.YtckdkbjobipniaaW.PrintWords Go.Proofs.YtckdkbjobipniaaW.PrintLast
/-- What is cut: the payloads, how many bytes they take, the error of what follows. -/
def cutN : Nat → List Int → List (List Int) × Nat × Int
  | 0, _ => ([], 0, 0)
  | k + 1, xs => if xs.length = 0 then ([], 0, 0) else if openErr xs = 0 then
      (openTxt xs :: (cutN k (xs.drop (8 + (rd4 xs).toNat))).1, 8 + (rd4 xs).toNat + (cutN k (xs.drop (8 + (rd4 xs).toNat))).2.1, (cutN k (xs.drop (8 + (rd4 xs).toNat))).2.2)
    else ([], 0, openErr xs)
def cutOf (xs : List Int) : List (List Int) × Nat × Int := cutN (xs.length + 1) xs
theorem cutN_more : ∀ (k : Nat) (xs : List Int), xs.length < k → cutN k xs = cutN (k + 1) xs
  | 0, xs, h => by omega
  | k + 1, xs, h => by
    unfold cutN
    by_cases h0 : xs.length = 0
    · rw [if_pos h0, if_pos h0]
    · rw [if_neg h0, if_neg h0]
      by_cases h1 : openErr xs = 0
      · rw [if_pos h1, if_pos h1, cutN_more k (xs.drop (8 + (rd4 xs).toNat)) (by rw [List.length_drop]; omega)]
      · rw [if_neg h1, if_neg h1]
theorem cutN_any (xs : List Int) : ∀ k, xs.length < k → cutN k xs = cutOf xs := by
  intro k hk
  obtain ⟨d, rfl⟩ : ∃ d, k = xs.length + 1 + d := ⟨k - (xs.length + 1), by omega⟩
  clear hk
  induction d with
  | zero => rfl
  | succ d ih => rw [← ih, show xs.length + 1 + (d + 1) = xs.length + 1 + d + 1 by omega, ← cutN_more _ xs (by omega)]
theorem cutOf_nil : cutOf [] = ([], 0, 0) := rfl
theorem cutOf_bad (xs : List Int) (h0 : xs.length ≠ 0) (h : openErr xs ≠ 0) : cutOf xs = ([], 0, openErr xs) := by
  unfold cutOf cutN
  rw [if_neg h0, if_neg h]
theorem cutOf_step (xs : List Int) (h0 : xs.length ≠ 0) (h : openErr xs = 0) :
    cutOf xs = (openTxt xs :: (cutOf (xs.drop (8 + (rd4 xs).toNat))).1, 8 + (rd4 xs).toNat + (cutOf (xs.drop (8 + (rd4 xs).toNat))).2.1, (cutOf (xs.drop (8 + (rd4 xs).toNat))).2.2) := by
  have e := cutN_any (xs.drop (8 + (rd4 xs).toNat)) xs.length (by rw [List.length_drop]; omega)
  show cutN (xs.length + 1) xs = _
  rw [← e]
  conv => lhs; unfold cutN
  rw [if_neg h0, if_pos h]
/-- How far a cut has come: acc payloads, at byte k. -/
def cutAt (xs : List Int) (acc : List (List Int)) (k : Nat) : Prop := k ≤ xs.length ∧ acc.length * 8 ≤ k ∧ (cutOf xs).1 = acc ++ (cutOf (xs.drop k)).1 ∧ (cutOf xs).2.1 = k + (cutOf (xs.drop k)).2.1 ∧ (cutOf xs).2.2 = (cutOf (xs.drop k)).2.2
theorem cutAt_start (xs : List Int) : cutAt xs [] 0 := ⟨Nat.zero_le _, Nat.zero_le _, by simp, by simp, by simp⟩
theorem cutAt_step {xs : List Int} {acc : List (List Int)} {k : Nat} (h : cutAt xs acc k) (hb : isB xs) (hk : k < xs.length) (ho : openErr (xs.drop k) = 0) :
    ∃ v : Nat, openEnd (xs.drop k) = 8 + v ∧ k + (8 + v) ≤ xs.length ∧ cutAt xs (acc ++ [openTxt (xs.drop k)]) (k + (8 + v)) := by
  obtain ⟨v, hv, hv1, hv2, hend, htl, _⟩ := seal_open (xs.drop k) (fun x hx => hb x (List.mem_of_mem_drop hx)) ho
  rw [List.length_drop] at hv2
  obtain ⟨h1, h2, h3, h4, h5⟩ := h
  have hs := cutOf_step (xs.drop k) (by rw [List.length_drop]; omega) ho
  rw [hv, Int.toNat_natCast, List.drop_drop] at hs
  refine ⟨v, hend, by omega, by omega, by rw [List.length_append]; simp; omega, ?_, ?_, ?_⟩
  · rw [h3, hs]; simp
  · rw [h4, hs]; show k + (8 + v + _) = _; omega
  · rw [h5, hs]
theorem cutAt_bad {xs : List Int} {acc : List (List Int)} {k : Nat} (h : cutAt xs acc k) (hk : k < xs.length) (ho : openErr (xs.drop k) ≠ 0) : cutOf xs = (acc, k, openErr (xs.drop k)) := by
  obtain ⟨h1, h2, h3, h4, h5⟩ := h
  have hs := cutOf_bad (xs.drop k) (by rw [List.length_drop]; omega) ho
  rw [hs] at h3 h4 h5
  rw [Prod.ext_iff, Prod.ext_iff]
  exact ⟨by simpa using h3, by simpa using h4, by simpa using h5⟩
theorem cutAt_end {xs : List Int} {acc : List (List Int)} (h : cutAt xs acc xs.length) : cutOf xs = (acc, xs.length, 0) := by
  obtain ⟨h1, h2, h3, h4, h5⟩ := h
  rw [List.drop_length, cutOf_nil] at h3 h4 h5
  rw [Prod.ext_iff, Prod.ext_iff]
  exact ⟨by simpa using h3, by simpa using h4, by simpa using h5⟩
section
variable {w0 w : World} {F : HP}
theorem Try.finfoRow : (Try.prog.info? 28).map (fun i => (i.zero, i.size, i.bytes)) = some (some (.slice none 0 0), 1, 24) := by kernel_rfl
set_option maxHeartbeats 3200000 in
set_option maxRecDepth 100000 in
theorem fcut_ok (A : Option Addr) (n c : Nat) (xs : List Int) (hm : n ≤ 16777216) (hc : n ≤ c) (h : Hw w0 w F) (hE : Ent w0 F (fun w => (Kd.int .u8).C w A n xs)) (hb : isB xs) :
    Calls Try.prog 80 #[.slice A n c] w fun e w' => ∃ A' n' c' hs, e = .returned (.tuple #[.slice A' n' c', .int .i64 ((cutOf xs).2.1 : Int), .int .i64 (cutOf xs).2.2]) ∧
      Hw w0 w' (row KHdr 28 (.slice A' n' c') hs * (rowsHP (Kd.int .u8) 5 hs (cutOf xs).1 * F)) := by
  have hl : xs.length = n := (hE w h).1
  have HL := Aside0.mk hl
  have H := Aside0.mk h
  have HE := Aside0.mk hE
  have HB := Aside0.mk hb
  obtain ⟨inf, hinf, hiz0, hiz1, hiz2⟩ := info_parts Try.finfoU8
  clear h hE hb hl hiz0 hiz2
  go_enter Try.func80, Try.ntmps80
  go_wp2_with fail
  go_loopw [5, 6] (fun v i wr => ∃ (k m : Nat) (A1 : Option Addr) (c1 : Nat) (hs : List Hdr) (acc : List (List Int)), k ≤ n ∧ m * 8 ≤ k ∧ i = .int .i64 k ∧ v = .slice A1 m c1 ∧ Aside0 (acc.length = m) ∧ Aside0 (cutAt xs acc k) ∧
    Aside0 (Hw w0 wr (row KHdr 28 (.slice A1 m c1) hs * (rowsHP (Kd.int .u8) 5 hs acc * F)))) (fun _ i _ => n - (intOf i).toNat)
  case atStart => exact ⟨0, 0, none, 0, [], [], Nat.zero_le _, Nat.le_refl _, rfl, rfl, ⟨rfl⟩, ⟨cutAt_start xs⟩, ⟨(H.out.emp_mul.as (Q := rowsHP (Kd.int .u8) 5 [] [] * F) rfl).row_nil KHdr 28⟩⟩
  case round =>
    obtain ⟨k, m, A1, c1, hs, acc, hk, hmk, rfl, rfl, HM, HCA, HW⟩ := hrel
    clear H
    by_cases hlt : k < n
    · obtain ⟨A2, hrun2, hC2⟩ := sl_drop (Kd.int .u8) 28 5 Try.underlying28 hinf hiz1 A n c (k : Int) k rfl (by omega) hc
      have HC2 := Aside0.mk hC2
      have hb2 : isB (xs.drop k) := fun x hx => HB.out x (List.mem_of_mem_drop hx)
      have HB2 := Aside0.mk hb2
      clear hC2 hb2
      go_wp2_with fail
      refine (fopen_ok A2 (n - k) (c - k) (xs.drop k) (by omega) (by omega) HW.out (fun w' hw => HC2.out _ _ (HE.out.use hw.right.right)) HB2.out).mono ?_
      rintro e w1 ⟨A3, n3, c3, rfl, h3⟩
      by_cases ho : openErr (xs.drop k) = 0
      · obtain ⟨v, hv1, hv2, hca⟩ := cutAt_step HCA.out HB.out (by rw [HL.out]; exact hlt) ho
        rw [HL.out] at hv2
        rw [ho, hv1]
        have HCA2 := Aside0.mk hca
        have e8 : IntKind.i64.wrap ((k : Int) + (8 + v)) = k + (8 + v) := by rw [IntKind.wrap_i64]; omega
        have H3 := Aside0.mk (h3.as (Q := row KHdr 28 (.slice A1 m c1) hs * (rowsHP (Kd.int .u8) 5 hs acc * (row (Kd.int .u8) 5 (.slice A3 n3 c3) (openTxt (xs.drop k)) * F))) (by ac_rfl))
        clear h3 HW hca ho hv1 hrun2 HC2
        go_wp2_with (at_builtin; refine Hw.append_rows rfl (.tmp 27) (.tmp 29) 161 28 rfl Try.underlying161 Try.finfoRow A1 m c1 hs acc A3 n3 c3 (openTxt (xs.drop k)) rfl rfl H3.out (by omega) ?_; intro A4 c4 w4 H4)
        go_roundw
        case rel => exact ⟨k + (8 + v), m + 1, A4, c4, _, _, by omega, by omega, by go_num, rfl, ⟨by simp [HM.out]⟩, HCA2, H4⟩
        case measure => simp [intOf]; omega
      · have hcut := cutAt_bad HCA.out (by rw [HL.out]; exact hlt) ho
        obtain ⟨er, her⟩ : ∃ er, er = openErr (xs.drop k) := ⟨_, rfl⟩
        obtain ⟨o2, o3⟩ := open_bad _ ho
        rw [o2] at h3
        rw [← her] at ho hcut
        rw [o3, ← her]
        have hne : (er != 0) = true := by simpa using ho
        have CUT := Aside0.mk hcut
        have H3 := Aside0.mk h3.right
        clear h3 HW ho hcut her hrun2 HC2 o2 o3
        go_wp2_with fail
        go_ret3
        refine ⟨A1, m, c1, hs, by rw [CUT.out]; rfl, ?_⟩
        rw [CUT.out]
        exact H3.out
    · have hkn : k = n := by omega
      subst hkn
      have hcut := cutAt_end (by rw [HL.out]; exact HCA.out)
      rw [HL.out] at hcut
      have CUT := Aside0.mk hcut
      clear hcut
      go_wp2_with fail
      go_ret3
      refine ⟨A1, m, c1, hs, by rw [CUT.out]; rfl, ?_⟩
      rw [CUT.out]
      exact HW.out
end
end Go.Proofs.Ytckdkbjobipniaa

/- What is cut from frames one behind the other: plain laws. -/
set_option linter.unusedVariables false
set_option linter.unusedSimpArgs false
namespace Go.Proofs.Ytckdkbjobipniaa
theorem openTxt_isB (xs : List Int) (hb : isB xs) : isB (openTxt xs) := by
  unfold openTxt
  split
  · exact fun x hx => hb x (List.mem_of_mem_take (List.mem_of_mem_drop hx))
  · intro x hx; simp at hx
theorem cutOf_end (n : Nat) : ∀ (xs : List Int), xs.length ≤ n → isB xs → ((cutOf xs).2.2 = 0 ∧ (cutOf xs).2.1 = xs.length) ∨ ((cutOf xs).2.2 ≠ 0 ∧ (cutOf xs).2.1 < xs.length) := by
  induction n with
  | zero =>
    intro xs hl _
    obtain rfl : xs = [] := List.eq_nil_of_length_eq_zero (by omega)
    exact .inl ⟨rfl, rfl⟩
  | succ n ih =>
    intro xs hl hb
    by_cases h0 : xs.length = 0
    · obtain rfl : xs = [] := List.eq_nil_of_length_eq_zero h0
      exact .inl ⟨rfl, rfl⟩
    · by_cases ho : openErr xs = 0
      · obtain ⟨v, hv, hv1, hv2, _⟩ := seal_open xs hb ho
        have hs := cutOf_step xs h0 ho
        rw [hv, Int.toNat_natCast] at hs
        have := ih (xs.drop (8 + v)) (by rw [List.length_drop]; omega) (fun x hx => hb x (List.mem_of_mem_drop hx))
        rw [hs]
        rw [List.length_drop] at this
        rcases this with ⟨h1, h2⟩ | ⟨h1, h2⟩
        · exact .inl ⟨h1, by show 8 + v + _ = _; omega⟩
        · exact .inr ⟨h1, by show 8 + v + _ < _; omega⟩
      · rw [cutOf_bad xs h0 ho]
        exact .inr ⟨ho, by show 0 < xs.length; omega⟩
theorem cutOf_count (n : Nat) : ∀ (xs : List Int), xs.length ≤ n → isB xs → (cutOf xs).1.length * 8 ≤ xs.length := by
  induction n with
  | zero =>
    intro xs hl _
    obtain rfl : xs = [] := List.eq_nil_of_length_eq_zero (by omega)
    exact Nat.le_refl _
  | succ n ih =>
    intro xs hl hb
    by_cases h0 : xs.length = 0
    · obtain rfl : xs = [] := List.eq_nil_of_length_eq_zero h0
      exact Nat.le_refl _
    · by_cases ho : openErr xs = 0
      · obtain ⟨v, hv, hv1, hv2, _⟩ := seal_open xs hb ho
        have hs := cutOf_step xs h0 ho
        rw [hv, Int.toNat_natCast] at hs
        have := ih (xs.drop (8 + v)) (by rw [List.length_drop]; omega) (fun x hx => hb x (List.mem_of_mem_drop hx))
        rw [hs]
        rw [List.length_drop] at this
        show ((cutOf (xs.drop (8 + v))).1.length + 1) * 8 ≤ _
        omega
      · rw [cutOf_bad xs h0 ho]
        exact Nat.zero_le _
theorem cutOf_seal (x ys : List Int) (hb : isB x) (hl : x.length ≤ 16384) : cutOf (sealOf x ++ ys) = (x :: (cutOf ys).1, 8 + x.length + (cutOf ys).2.1, (cutOf ys).2.2) := by
  obtain ⟨o1, o2, o3⟩ := open_seal x ys hb hl
  have hlen : (sealOf x ++ ys).length ≠ 0 := by rw [List.length_append, sealOf_len]; omega
  have hs := cutOf_step (sealOf x ++ ys) hlen o1
  have e1 : openEnd (sealOf x ++ ys) = 8 + rd4 (sealOf x ++ ys) := by unfold openEnd; rw [if_pos o1]
  have hr : rd4 (sealOf x ++ ys) = x.length := by rw [e1] at o3; omega
  rw [hr, Int.toNat_natCast, o2, List.drop_left' (sealOf_len x)] at hs
  exact hs
end Go.Proofs.Ytckdkbjobipniaa
