/- Tokens, plain: the digits of a revision, the signs. -/
import Derived.Test.YtloiclalcepbeaaTokenM
import Derived.Test.YtloiclalcepbeaaText
set_option linter.unusedVariables false
set_option linter.unusedSimpArgs false
namespace Go.Proofs.Ytloiclalcepbeaa
/-- A number's digits with the base 31, the lowest first; of nought none. -/
def low31 (n : Nat) : List Int := if h : n = 0 then [] else ((n % 31 : Nat) : Int) :: low31 (n / 31)
termination_by n
decreasing_by omega
theorem low31_zero : low31 0 = [] := by unfold low31; simp
theorem low31_pos (n : Nat) (h : 0 < n) : low31 n = ((n % 31 : Nat) : Int) :: low31 (n / 31) := by
  rw [low31]; simp [Nat.ne_of_gt h]
theorem low31_len : ∀ (k n : Nat), n < 31 ^ k → (low31 n).length ≤ k
  | 0, n, h => by
    have : n = 0 := by simpa using h
    subst this; simp [low31_zero]
  | k + 1, n, h => by
    by_cases h0 : n = 0
    · subst h0; simp [low31_zero]
    · rw [low31_pos n (by omega), List.length_cons]
      have := low31_len k (n / 31) (by rw [Nat.div_lt_iff_lt_mul (by decide)]; rwa [Nat.pow_succ] at h)
      omega
theorem low31_digs : ∀ (n : Nat), digs (low31 n) := by
  intro n
  induction n using Nat.strongRecOn with
  | _ n ih =>
    by_cases h0 : n = 0
    · subst h0; rw [low31_zero]; intro d hd; simp at hd
    · rw [low31_pos n (by omega)]
      intro d hd
      rcases List.mem_cons.1 hd with rfl | hd
      · omega
      · exact ih (n / 31) (by omega) d hd
def signsL : List Int := [48, 49, 50, 51, 52, 53, 54, 55, 56, 57, 97, 98, 99, 100, 101, 102, 103, 104, 106, 107, 109, 110, 112, 113, 114, 115, 116, 117, 118, 119, 120]
theorem signs_str : strOfNums signsL = ⟨#[48, 49, 50, 51, 52, 53, 54, 55, 56, 57, 97, 98, 99, 100, 101, 102, 103, 104, 106, 107, 109, 110, 112, 113, 114, 115, 116, 117, 118, 119, 120]⟩ := by decide +kernel
/-- A place's sign. -/
def sgn (d : Int) : Int := signsL.getD d.toNat 0
theorem sgn_at (d : Int) (h0 : 0 ≤ d) (h1 : d ≤ 30) : signsL[d.toNat]? = some (sgn d) := by
  unfold sgn
  have hl : d.toNat < signsL.length := by show _ < 31; omega
  rw [List.getElem?_eq_getElem hl, List.getD_eq_getElem?_getD, List.getElem?_eq_getElem hl]
  rfl
theorem signs_byte : ∀ x ∈ signsL, 0 ≤ x ∧ x ≤ 255 := by decide
theorem sgn_byte (d : Int) (h0 : 0 ≤ d) (h1 : d ≤ 30) : 0 ≤ sgn d ∧ sgn d ≤ 255 := signs_byte _ (List.mem_of_getElem? (sgn_at d h0 h1))
theorem sgns_bytes (ds : List Int) (h : digs ds) : bytes (ds.map sgn) := by
  intro x hx
  obtain ⟨d, hd, rfl⟩ := List.mem_map.1 hx
  exact sgn_byte d (h d hd).1 (h d hd).2
theorem sgn_run {P : Program} (t : TypeId) (ht : P.underlying t = some .string) (d : Int) (h0 : 0 ≤ d) (h1 : d ≤ 30) :
    ∀ W : World, (Instr.index t (.string ⟨#[48, 49, 50, 51, 52, 53, 54, 55, 56, 57, 97, 98, 99, 100, 101, 102, 103, 104, 106, 107, 109, 110, 112, 113, 114, 115, 116, 117, 118, 119, 120]⟩) (.int .i64 d)).run P W = .ok (.int .u8 (sgn d)) W := by
  rw [← signs_str]
  exact tx_index t ht signsL .i64 d d.toNat (sgn d) (by omega) (sgn_at d h0 h1) (sgn_byte d h0 h1)
/-- A token's digits: the node, the revision's, the check sign. -/
def tbody (node rev : Nat) : List Int := (node : Int) :: (low31 rev).reverse
def tdigits (node rev : Nat) : List Int := tbody node rev ++ [(tcheck (tbody node rev) : Int)]
/-- May it be written? -/
def tfits (node rev : Int) : Prop := 0 ≤ node ∧ node < 8 ∧ 0 ≤ rev ∧ rev ≤ 1125899906842624
instance (node rev : Int) : Decidable (tfits node rev) := by unfold tfits; infer_instance
def ttext (node rev : Int) : List Int := if tfits node rev then (tdigits node.toNat rev.toNat).map sgn else []
def terr (node rev : Int) : Int := if tfits node rev then 0 else 1
theorem tbody_digs (node rev : Nat) (h : node < 8) : digs (tbody node rev) := by
  intro d hd
  rcases List.mem_cons.1 hd with rfl | hd
  · omega
  · exact low31_digs rev d (List.mem_reverse.1 hd)
theorem tdigits_digs (node rev : Nat) (h : node < 8) : digs (tdigits node rev) := by
  intro d hd
  rcases List.mem_append.1 hd with hd | hd
  · exact tbody_digs node rev h d hd
  · have hd : d = (tcheck (tbody node rev) : Int) := by simpa using hd
    subst hd
    have := tcheck_lt (tbody node rev)
    omega
theorem low31_len11 (rev : Nat) (h : rev ≤ 1125899906842624) : (low31 rev).length ≤ 11 := low31_len 11 rev (by omega)
theorem tbody_len (node rev : Nat) (h : rev ≤ 1125899906842624) : (tbody node rev).length ≤ 12 := by
  have := low31_len11 rev h
  simp [tbody]; omega
end Go.Proofs.Ytloiclalcepbeaa
