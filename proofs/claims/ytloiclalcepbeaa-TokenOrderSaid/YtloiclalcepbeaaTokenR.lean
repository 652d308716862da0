/- Tokens, plain: the order of the texts. -/
import Derived.Test.YtloiclalcepbeaaTokenQ
set_option linter.unusedVariables false
set_option linter.unusedSimpArgs false
namespace Go.Proofs.Ytloiclalcepbeaa
theorem tx_list (s : ByteArray) : s.toList = s.data.toList := ByteArray.toList_eq s
def rv : List Int → Int
  | [] => 0
  | d :: t => d * 31 ^ t.length + rv t
theorem rv_snoc : ∀ (l : List Int) (d : Int), rv (l ++ [d]) = rv l * 31 + d
  | [], d => by simp [rv]
  | x :: l, d => by
    simp only [List.cons_append, rv, rv_snoc l d, List.length_append, List.length_cons, List.length_nil, Int.pow_succ, Nat.zero_add]
    rw [Int.add_mul, Int.mul_assoc]
    omega
theorem rval_rv : ∀ (k : Nat) (l : List Int), l.length = k → rval l = rv l
  | 0, l, h => by
    have : l = [] := List.eq_nil_of_length_eq_zero h
    subst this; rfl
  | k + 1, l, h => by
    have hne : l ≠ [] := by intro h'; subst h'; simp at h
    rw [← List.dropLast_concat_getLast hne, rval_snoc, rv_snoc, rval_rv k l.dropLast (by simp [h])]
theorem rv_bound : ∀ (l : List Int), digs l → 0 ≤ rv l ∧ rv l < 31 ^ l.length
  | [], _ => by simp [rv]
  | d :: t, h => by
    obtain ⟨h0, h1⟩ := rv_bound t (fun x hx => h x (by simp [hx]))
    obtain ⟨d0, d1⟩ := h d (by simp)
    simp only [rv, List.length_cons, Int.pow_succ]
    have p0 : (0 : Int) ≤ 31 ^ t.length := by omega
    have p1 := Int.mul_nonneg d0 p0
    have p2 := Int.mul_le_mul_of_nonneg_right d1 p0
    omega
def bs (l : List Int) : List UInt8 := (l.map sgn).map fun n => UInt8.ofNat n.toNat
theorem sgn_lt_table : ∀ d e : Fin 31, (decide (UInt8.ofNat (sgn (d.val : Int)).toNat < UInt8.ofNat (sgn (e.val : Int)).toNat) = decide (d.val < e.val)) ∧ ((UInt8.ofNat (sgn (d.val : Int)).toNat == UInt8.ofNat (sgn (e.val : Int)).toNat) = decide (d.val = e.val)) := by decide +kernel
theorem sgn_lt (d e : Int) (hd : 0 ≤ d ∧ d ≤ 30) (he : 0 ≤ e ∧ e ≤ 30) : decide (UInt8.ofNat (sgn d).toNat < UInt8.ofNat (sgn e).toNat) = decide (d < e) ∧ (UInt8.ofNat (sgn d).toNat == UInt8.ofNat (sgn e).toNat) = decide (d = e) := by
  obtain ⟨n, rfl⟩ : ∃ n : Nat, d = n := ⟨d.toNat, by omega⟩
  obtain ⟨m, rfl⟩ : ∃ m : Nat, e = m := ⟨e.toNat, by omega⟩
  have h := sgn_lt_table ⟨n, by omega⟩ ⟨m, by omega⟩
  simp only at h
  rw [h.1, h.2]
  constructor
  · exact decide_eq_decide.2 (by omega)
  · exact decide_eq_decide.2 (by omega)
theorem less_rv : ∀ (l m : List Int), l.length = m.length → digs l → digs m → Op.bytesLess (bs l) (bs m) = decide (rv l < rv m)
  | [], [], _, _, _ => rfl
  | [], _ :: _, h, _, _ => by simp at h
  | _ :: _, [], h, _, _ => by simp at h
  | d :: l, e :: m, h, hl, hm => by
    have hlen : l.length = m.length := by simpa using h
    have hl' : digs l := fun x hx => hl x (by simp [hx])
    have hm' : digs m := fun x hx => hm x (by simp [hx])
    have ih := less_rv l m hlen hl' hm'
    obtain ⟨s1, s2⟩ := sgn_lt d e (hl d (by simp)) (hm e (by simp))
    show (decide (UInt8.ofNat (sgn d).toNat < UInt8.ofNat (sgn e).toNat) || (UInt8.ofNat (sgn d).toNat == UInt8.ofNat (sgn e).toNat && Op.bytesLess (bs l) (bs m))) = _
    rw [s1, s2, ih]
    obtain ⟨a0, a1⟩ := rv_bound l hl'
    obtain ⟨b0, b1⟩ := rv_bound m hm'
    obtain ⟨B, hB⟩ : ∃ B : Int, B = 31 ^ m.length := ⟨_, rfl⟩
    have e1 : rv (d :: l) = d * B + rv l := by rw [hB, ← hlen]; rfl
    have e2 : rv (e :: m) = e * B + rv m := by rw [hB]; rfl
    rw [hlen, ← hB] at a1
    rw [← hB] at b1
    rw [e1, e2]
    clear e1 e2 hB
    rcases Int.lt_trichotomy d e with hlt | heq | hgt
    · have h1 := Int.mul_le_mul_of_nonneg_right (show d + 1 ≤ e by omega) (show 0 ≤ B by omega)
      rw [Int.add_mul, Int.one_mul] at h1
      rw [decide_eq_true hlt, Bool.true_or, eq_comm, decide_eq_true_iff]
      omega
    · subst heq
      simp
    · have h1 := Int.mul_le_mul_of_nonneg_right (show e + 1 ≤ d by omega) (show 0 ≤ B by omega)
      rw [Int.add_mul, Int.one_mul] at h1
      rw [decide_eq_false (show ¬ d < e by omega), decide_eq_false (show ¬ d = e by omega)]
      simp only [Bool.false_and, Bool.or_false, Bool.false_eq]
      exact decide_eq_false (by omega)
theorem low31_mono : ∀ (m n : Nat), n ≤ m → (low31 n).length ≤ (low31 m).length := by
  intro m
  induction m using Nat.strongRecOn with
  | _ m ih =>
    intro n hn
    by_cases h0 : n = 0
    · subst h0; rw [low31_zero]; simp
    · rw [low31_pos n (by omega), low31_pos m (by omega)]
      simp only [List.length_cons]
      have := ih (m / 31) (by omega) (n / 31) (Nat.div_le_div_right hn)
      omega
theorem low_order (n m : Nat) (h : (low31 n).length = (low31 m).length) : Op.bytesLess (bs (low31 n).reverse) (bs (low31 m).reverse) = decide (n < m) := by
  rw [less_rv _ _ (by simpa using h) (fun d hd => low31_digs n d (List.mem_reverse.1 hd)) (fun d hd => low31_digs m d (List.mem_reverse.1 hd)), ← rval_rv _ _ rfl, ← rval_rv _ _ rfl, rval_low, rval_low]
  exact decide_eq_decide.2 (by omega)
/-- A token's text: its length, its middle. -/
theorem ttext_size (a b : Nat) : (strOfNums ((tdigits a b).map sgn)).size = (low31 b).length + 2 := by
  rw [tx_size]; simp [tdigits, tbody]
theorem ttext_mid {P : Program} (t : TypeId) (ht : P.underlying t = some .string) (a b : Nat) (hi : Int) (hh : hi = (low31 b).length + 1) :
    ∃ p : ByteArray, p.toList = bs (low31 b).reverse ∧ ∀ W : World, (Instr.slice t (.string (strOfNums ((tdigits a b).map sgn))) (some (.int .i64 1)) (some (.int .i64 hi)) none).run P W = .ok (.string p) W := by
  refine ⟨strOfNums ((((tdigits a b).map sgn).take ((low31 b).length + 1)).drop 1), ?_, fun W => tx_slice t ht _ 1 hi 1 ((low31 b).length + 1) rfl (by omega) (by omega) (by simp [tdigits, tbody]) W⟩
  have e : (((tdigits a b).map sgn).take ((low31 b).length + 1)).drop 1 = (low31 b).reverse.map sgn := by
    unfold tdigits tbody
    rw [List.cons_append, List.map_cons, List.take_succ_cons, List.drop_succ_cons, List.drop_zero, List.map_append]
    exact List.take_left' (by simp)
  rw [e, tx_list, strOfNums_data]
  rfl
theorem ttext_eq (a b c d : Nat) (ha : a < 8) (hb : b ≤ 1125899906842624) (hc : c < 8) (hd : d ≤ 1125899906842624) (h : ¬ (a = c ∧ b = d)) : ((strOfNums ((tdigits a b).map sgn)).toList == (strOfNums ((tdigits c d).map sgn)).toList) = false := by
  refine beq_eq_false_iff_ne.2 fun hh => h ?_
  have h1 := tparse_print a b ha hb
  rw [tx_toList.1 hh, tparse_print c d hc hd] at h1
  simp only [Prod.mk.injEq] at h1
  exact ⟨by omega, by omega⟩
end Go.Proofs.Ytloiclalcepbeaa
