/- The frame's sum: a shift register of 32 bits; it is a linear law. -/
import Derived.Test.YtehbchggekbkkaaWWords
set_option linter.unusedVariables false
set_option linter.unusedSimpArgs false
namespace Go.Proofs.Ytehbchggekbkkaa
abbrev B32 := BitVec 32
def fpoly : B32 := 0x82f63b78#32
def fstep (s : B32) : B32 := if s.getLsbD 0 then (s >>> 1) ^^^ fpoly else s >>> 1
def fsteps : Nat → B32 → B32
  | 0, s => s
  | n + 1, s => fstep (fsteps n s)
def feed (s : B32) (x : Int) : B32 := fsteps 8 (s ^^^ BitVec.ofInt 32 x)
def feeds (s : B32) (xs : List Int) : B32 := xs.foldl feed s
def crc (xs : List Int) : B32 := ~~~ (feeds (~~~ 0#32) xs)
theorem shr_xor (a b : B32) : (a ^^^ b) >>> 1 = (a >>> 1) ^^^ (b >>> 1) := by
  apply BitVec.eq_of_getLsbD_eq
  intro i hi
  simp [BitVec.getLsbD_ushiftRight, BitVec.getLsbD_xor]
theorem fstep_xor (a b : B32) : fstep (a ^^^ b) = fstep a ^^^ fstep b := by
  unfold fstep
  rw [BitVec.getLsbD_xor, shr_xor]
  cases a.getLsbD 0 <;> cases b.getLsbD 0
  · simp
  · simp [BitVec.xor_assoc]
  · simp only [Bool.xor_false, if_true, Bool.false_eq_true, if_false]
    ac_rfl
  · simp only [Bool.xor_self, Bool.false_eq_true, if_false, if_true]
    have : (a >>> 1 ^^^ fpoly) ^^^ (b >>> 1 ^^^ fpoly) = (a >>> 1 ^^^ b >>> 1) ^^^ (fpoly ^^^ fpoly) := by ac_rfl
    rw [this, BitVec.xor_self, BitVec.xor_zero]
theorem fsteps_xor (n : Nat) (a b : B32) : fsteps n (a ^^^ b) = fsteps n a ^^^ fsteps n b := by
  induction n with
  | zero => rfl
  | succ n ih => simp only [fsteps]; rw [ih, fstep_xor]
theorem xor_eq_zero {a b : B32} (h : a ^^^ b = 0#32) : a = b := by
  have : (a ^^^ b) ^^^ b = 0#32 ^^^ b := by rw [h]
  rw [BitVec.xor_assoc, BitVec.xor_self, BitVec.xor_zero, BitVec.zero_xor] at this
  exact this
theorem fstep_zero {x : B32} (h : fstep x = 0#32) : x = 0#32 := by
  unfold fstep at h
  split at h
  · exfalso
    have h31 : ((x >>> 1) ^^^ fpoly).getLsbD 31 = (0#32).getLsbD 31 := by rw [h]
    rw [BitVec.getLsbD_xor, BitVec.getLsbD_ushiftRight] at h31
    have hp : fpoly.getLsbD 31 = true := by decide
    rw [hp, BitVec.getLsbD_of_ge x (1 + 31) (by omega)] at h31
    simp at h31
  · rename_i h0
    apply BitVec.eq_of_getLsbD_eq
    intro i hi
    rw [BitVec.getLsbD_zero]
    cases i with
    | zero => simpa using h0
    | succ i =>
      have : (x >>> 1).getLsbD i = (0#32).getLsbD i := by rw [h]
      rw [BitVec.getLsbD_ushiftRight, BitVec.getLsbD_zero, Nat.add_comm] at this
      exact this
theorem fstep_inj {a b : B32} (h : fstep a = fstep b) : a = b := by
  apply xor_eq_zero
  apply fstep_zero
  rw [fstep_xor, h, BitVec.xor_self]
theorem fsteps_inj (n : Nat) {a b : B32} (h : fsteps n a = fsteps n b) : a = b := by
  induction n with
  | zero => exact h
  | succ n ih => exact ih (fstep_inj h)
theorem xor_right_inj {a b c : B32} (h : a ^^^ c = b ^^^ c) : a = b := by
  have : (a ^^^ c) ^^^ c = (b ^^^ c) ^^^ c := by rw [h]
  rw [BitVec.xor_assoc, BitVec.xor_assoc, BitVec.xor_self, BitVec.xor_zero, BitVec.xor_zero] at this
  exact this
theorem feed_inj {s t : B32} {x : Int} (h : feed s x = feed t x) : s = t := xor_right_inj (fsteps_inj 8 h)
theorem feed_inj_x {s : B32} {x y : Int} (h : feed s x = feed s y) (hx : 0 ≤ x ∧ x ≤ 255) (hy : 0 ≤ y ∧ y ≤ 255) : x = y := by
  have h1 := fsteps_inj 8 h
  rw [BitVec.xor_comm s, BitVec.xor_comm s] at h1
  have h2 := congrArg BitVec.toNat (xor_right_inj h1)
  simp only [BitVec.toNat_ofInt] at h2
  omega
theorem feeds_inj (xs : List Int) {s t : B32} (h : feeds s xs = feeds t xs) : s = t := by
  induction xs generalizing s t with
  | nil => exact h
  | cons x xs ih => exact feed_inj (ih h)
theorem feeds_append (s : B32) (xs ys : List Int) : feeds s (xs ++ ys) = feeds (feeds s xs) ys := by simp [feeds]
/-- One byte turned: another sum. -/
theorem feeds_set (xs : List Int) (i : Nat) (x y : Int) (s : B32) (hi : xs[i]? = some x) (hx : 0 ≤ x ∧ x ≤ 255) (hy : 0 ≤ y ∧ y ≤ 255) (h : feeds s (xs.set i y) = feeds s xs) : y = x := by
  induction xs generalizing s i with
  | nil => simp at hi
  | cons z xs ih =>
    cases i with
    | zero =>
      obtain rfl : z = x := by simpa using hi
      have h' : feeds (feed s y) xs = feeds (feed s z) xs := h
      exact feed_inj_x (feeds_inj xs h') hy hx
    | succ i => exact ih i (feed s z) (by simpa using hi) (by simpa [feeds] using h)
theorem not_inj {a b : B32} (h : ~~~ a = ~~~ b) : a = b := by
  have := congrArg (~~~ ·) h
  simpa using this
theorem crc_set (xs : List Int) (i : Nat) (x y : Int) (hi : xs[i]? = some x) (hx : 0 ≤ x ∧ x ≤ 255) (hy : 0 ≤ y ∧ y ≤ 255) (h : crc (xs.set i y) = crc xs) : y = x :=
  feeds_set xs i x y _ hi hx hy (not_inj h)
/-- Three rows taken together. -/
def xor3 (a b c : Int) : Int := ((BitVec.ofInt 8 a ^^^ BitVec.ofInt 8 b ^^^ BitVec.ofInt 8 c).toNat : Int)
theorem xor3_32 (a b c : Int) (ha : 0 ≤ a ∧ a ≤ 255) (hb : 0 ≤ b ∧ b ≤ 255) (hc : 0 ≤ c ∧ c ≤ 255) : BitVec.ofInt 32 (xor3 a b c) = BitVec.ofInt 32 a ^^^ BitVec.ofInt 32 b ^^^ BitVec.ofInt 32 c := by
  obtain ⟨a, rfl⟩ : ∃ n : Nat, a = n := ⟨a.toNat, by omega⟩
  obtain ⟨b, rfl⟩ : ∃ n : Nat, b = n := ⟨b.toNat, by omega⟩
  obtain ⟨c, rfl⟩ : ∃ n : Nat, c = n := ⟨c.toNat, by omega⟩
  apply BitVec.eq_of_toNat_eq
  have h1 : a ^^^ b ^^^ c < 2 ^ 8 := Nat.xor_lt_two_pow (Nat.xor_lt_two_pow (by omega) (by omega)) (by omega)
  simp only [xor3, BitVec.ofInt_natCast, BitVec.toNat_xor, BitVec.toNat_ofNat]
  rw [Nat.mod_eq_of_lt (show a < 2 ^ 8 by omega), Nat.mod_eq_of_lt (show b < 2 ^ 8 by omega), Nat.mod_eq_of_lt (show c < 2 ^ 8 by omega), Nat.mod_eq_of_lt (show a < 2 ^ 32 by omega), Nat.mod_eq_of_lt (show b < 2 ^ 32 by omega), Nat.mod_eq_of_lt (show c < 2 ^ 32 by omega), Nat.mod_eq_of_lt (by omega)]
theorem feed_xor3 (s t u : B32) (a b c : Int) (ha : 0 ≤ a ∧ a ≤ 255) (hb : 0 ≤ b ∧ b ≤ 255) (hc : 0 ≤ c ∧ c ≤ 255) : feed s a ^^^ feed t b ^^^ feed u c = feed (s ^^^ t ^^^ u) (xor3 a b c) := by
  unfold feed
  rw [xor3_32 a b c ha hb hc, ← fsteps_xor, ← fsteps_xor]
  congr 1
  ac_rfl
def zip3 : List Int → List Int → List Int → List Int
  | a :: as, b :: bs, c :: cs => xor3 a b c :: zip3 as bs cs
  | _, _, _ => []
theorem feeds_xor3 : ∀ (as bs cs : List Int) (s t u : B32), as.length = bs.length → as.length = cs.length → (∀ x ∈ as, 0 ≤ x ∧ x ≤ 255) → (∀ x ∈ bs, 0 ≤ x ∧ x ≤ 255) → (∀ x ∈ cs, 0 ≤ x ∧ x ≤ 255) →
    feeds s as ^^^ feeds t bs ^^^ feeds u cs = feeds (s ^^^ t ^^^ u) (zip3 as bs cs)
  | [], [], [], s, t, u, _, _, _, _, _ => rfl
  | a :: as, b :: bs, c :: cs, s, t, u, h1, h2, ha, hb, hc => by
    show feeds (feed s a) as ^^^ feeds (feed t b) bs ^^^ feeds (feed u c) cs = feeds (feed (s ^^^ t ^^^ u) (xor3 a b c)) (zip3 as bs cs)
    rw [feeds_xor3 as bs cs _ _ _ (by simpa using h1) (by simpa using h2) (fun x hx => ha x (.tail _ hx)) (fun x hx => hb x (.tail _ hx)) (fun x hx => hc x (.tail _ hx)),
      feed_xor3 s t u a b c (ha a (.head _)) (hb b (.head _)) (hc c (.head _))]
  | [], _ :: _, _, _, _, _, h, _, _, _, _ => by simp at h
  | [], [], _ :: _, _, _, _, _, h, _, _, _ => by simp at h
  | _ :: _, [], _, _, _, _, h, _, _, _, _ => by simp at h
  | _ :: _, _ :: _, [], _, _, _, _, h, _, _, _ => by simp at h
theorem not_xor3 (a b c : B32) : ~~~ a ^^^ ~~~ b ^^^ ~~~ c = ~~~ (a ^^^ b ^^^ c) := by
  apply BitVec.eq_of_getLsbD_eq
  intro i hi
  simp only [BitVec.getLsbD_xor, BitVec.getLsbD_not, hi, decide_true, Bool.true_and]
  cases a.getLsbD i <;> cases b.getLsbD i <;> cases c.getLsbD i <;> rfl
theorem crc_xor3 (as bs cs : List Int) (h1 : as.length = bs.length) (h2 : as.length = cs.length) (ha : ∀ x ∈ as, 0 ≤ x ∧ x ≤ 255) (hb : ∀ x ∈ bs, 0 ≤ x ∧ x ≤ 255) (hc : ∀ x ∈ cs, 0 ≤ x ∧ x ≤ 255) :
    crc as ^^^ crc bs ^^^ crc cs = crc (zip3 as bs cs) := by
  unfold crc
  rw [not_xor3, feeds_xor3 as bs cs _ _ _ h1 h2 ha hb hc]
  congr 2
/-! ### The bits, as the walk spells them -/
theorem zip3_take (as bs cs : List Int) (n : Nat) : zip3 (as.take n) (bs.take n) (cs.take n) = (zip3 as bs cs).take n := by
  induction as generalizing bs cs n with
  | nil => cases n <;> simp [zip3]
  | cons a as ih =>
    cases bs with
    | nil => cases n <;> simp [zip3]
    | cons b bs =>
      cases cs with
      | nil => cases n <;> simp [zip3]
      | cons c cs =>
        cases n with
        | zero => simp [zip3]
        | succ n => simp [zip3, ih]
end Go.Proofs.Ytehbchggekbkkaa
