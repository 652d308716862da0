/- Tokens, plain: what is written is read; what is read is just what is written. -/
import Derived.Test.YtloiclalcepbeaaTokenP
set_option linter.unusedVariables false
set_option linter.unusedSimpArgs false
namespace Go.Proofs.Ytloiclalcepbeaa
theorem nums_str (l : List Int) (h : bytes l) : numsOf (strOfNums l) = l := tx_inj (numsOf_bytes _) h (strOf_numsOf _)
theorem map_plc_sgn (ds : List Int) (h : digs ds) : (ds.map sgn).map plc = ds := by
  rw [List.map_map]
  conv => rhs; rw [← List.map_id ds]
  exact List.map_congr_left fun d hd => plc_sgn d (h d hd).1 (h d hd).2
theorem map_sgn_plc (xs : List Int) (hb : bytes xs) (h : digs (xs.map plc)) : (xs.map plc).map sgn = xs := by
  rw [List.map_map]
  conv => rhs; rw [← List.map_id xs]
  exact List.map_congr_left fun x hx => (plc_range x (hb x hx).1 (hb x hx).2).2.2 (h _ (List.mem_map_of_mem hx)).1
theorem rval_low (n : Nat) : rval (low31 n).reverse = n := by
  induction n using Nat.strongRecOn with
  | _ n ih =>
    by_cases h0 : n = 0
    · subst h0; rw [low31_zero]; rfl
    · rw [low31_pos n (by omega), List.reverse_cons, rval_snoc, ih (n / 31) (by omega)]
      omega
theorem low31_last (n : Nat) (h : 0 < n) : ∃ d t, (low31 n).reverse = d :: t ∧ d ≠ 0 := by
  induction n using Nat.strongRecOn with
  | _ n ih =>
    rw [low31_pos n h, List.reverse_cons]
    by_cases h0 : n / 31 = 0
    · rw [h0, low31_zero]
      exact ⟨_, [], rfl, by omega⟩
    · obtain ⟨d, t, e, hd⟩ := ih (n / 31) (by omega) (by omega)
      rw [e]
      exact ⟨d, t ++ [_], rfl, hd⟩
theorem low_rval_aux : ∀ (k : Nat) (l : List Int), l.length = k → digs l → (∀ d t, l = d :: t → d ≠ 0) → low31 (rval l).toNat = l.reverse ∧ (l ≠ [] → 0 < rval l)
  | 0, l, hk, hd, h0 => by
    have : l = [] := List.eq_nil_of_length_eq_zero hk
    subst this
    exact ⟨low31_zero, fun h => absurd rfl h⟩
  | k + 1, l, hk, hd, h0 => by
    have hne : l ≠ [] := by intro h; subst h; simp at hk
    obtain ⟨l', d, rfl⟩ : ∃ l' d, l = l' ++ [d] := ⟨l.dropLast, l.getLast hne, (List.dropLast_concat_getLast hne).symm⟩
    have hk' : l'.length = k := by simpa using hk
    have hd' : digs l' := fun x hx => hd x (by simp [hx])
    obtain ⟨d0, d1⟩ := hd d (by simp)
    rw [rval_snoc, List.reverse_append]
    by_cases hl : l' = []
    · subst hl
      have hz : d ≠ 0 := h0 d [] rfl
      have e1 : rval [] * 31 + d = d := by show (0 : Int) * 31 + d = d; omega
      rw [e1]
      refine ⟨?_, fun _ => by omega⟩
      rw [low31_pos d.toNat (by omega), show d.toNat / 31 = 0 by omega, low31_zero]
      show [((d.toNat % 31 : Nat) : Int)] = [d]
      congr 1
      omega
    · obtain ⟨i1, i2⟩ := low_rval_aux k l' hk' hd' (fun x t e => h0 x (t ++ [d]) (by rw [e]; rfl))
      have hp := i2 hl
      refine ⟨?_, fun _ => by omega⟩
      rw [low31_pos (rval l' * 31 + d).toNat (by omega), show (rval l' * 31 + d).toNat / 31 = (rval l').toNat by omega, i1]
      show ((((rval l' * 31 + d).toNat % 31 : Nat) : Int)) :: l'.reverse = d :: l'.reverse
      congr 1
      omega
theorem tparse_print (a b : Nat) (ha : a < 8) (hb : b ≤ 1125899906842624) : tparse (numsOf (strOfNums ((tdigits a b).map sgn))) = ((a : Int), (b : Int), 0) := by
  have hd := tdigits_digs a b ha
  have hB := tbody_len a b hb
  have hl : (tdigits a b).length = (low31 b).length + 1 + 1 := by simp [tdigits, tbody]
  have hlb : (tbody a b).length = (low31 b).length + 1 := by simp [tbody]
  rw [nums_str _ (sgns_bytes _ hd), tparse_rest _ (by rw [List.length_map, hl]; omega) (by rw [map_plc_sgn _ hd]; exact hd), map_plc_sgn _ hd]
  have ht : (tdigits a b).take ((low31 b).length + 1) = tbody a b := by unfold tdigits; rw [← hlb]; simp
  have hz : (tdigits a b)[(low31 b).length + 1]? = some (tcheck (tbody a b) : Int) := by unfold tdigits; rw [← hlb]; simp
  rw [tparse2_eq (tdigits a b) ((low31 b).length + 1) (a : Int) _ hl (by omega) rfl hz, ht]
  have hm : (tbody a b).drop 1 = (low31 b).reverse := rfl
  rw [hm, rval_low, if_neg (by simp), if_neg, if_neg (by omega), if_neg (by omega)]
  rintro ⟨h1, h2⟩
  have hb0 : 0 < b := by
    rcases Nat.eq_zero_or_pos b with h | h
    · subst h; rw [low31_zero] at h1; simp at h1
    · exact h
  obtain ⟨d, t, e, hdz⟩ := low31_last b hb0
  have : (tdigits a b).getD 1 0 = d := by unfold tdigits tbody; rw [e]; rfl
  exact hdz (this ▸ h2)
theorem tparse_zero (xs : List Int) (h : (tparse xs).2.2 ≠ 0) : (tparse xs).1 = 0 ∧ (tparse xs).2.1 = 0 := by
  have key : ((tparse xs).1 = 0 ∧ (tparse xs).2.1 = 0) ∨ (tparse xs).2.2 = 0 := by
    unfold tparse tparse2
    repeat' split
    all_goals first | exact .inl ⟨rfl, rfl⟩ | exact .inr rfl
  rcases key with k | k
  · exact k
  · exact absurd k h
theorem tparse_good (xs : List Int) (hb : bytes xs) (h : (tparse xs).2.2 = 0) : ∃ a b : Nat, a < 8 ∧ b ≤ 1125899906842624 ∧ tparse xs = ((a : Int), (b : Int), 0) ∧ (tdigits a b).map sgn = xs := by
  by_cases hlong : 16 < xs.length
  · rw [tparse_long xs hlong] at h; simp at h
  · by_cases hany : (xs.map plc).any (fun d => decide (d < 0)) = true
    · unfold tparse at h; rw [if_neg hlong, if_pos hany] at h; simp at h
    · have hd : digs (xs.map plc) := by
        intro d hd
        obtain ⟨x, hx, rfl⟩ := List.mem_map.1 hd
        obtain ⟨p0, p1, _⟩ := plc_range x (hb x hx).1 (hb x hx).2
        refine ⟨?_, p1⟩
        rcases Int.lt_or_le (plc x) 0 with h | h
        · exact absurd (List.any_eq_true.2 ⟨_, hd, by simpa using h⟩) hany
        · exact h
      have hms := map_sgn_plc xs hb hd
      rw [tparse_rest xs (by omega) hd] at h ⊢
      obtain ⟨ds, hds⟩ : ∃ ds, ds = xs.map plc := ⟨_, rfl⟩
      rw [← hds] at h hd hms ⊢
      by_cases hshort : ds.length < 2
      · unfold tparse2 at h; rw [if_pos hshort] at h; simp at h
      · obtain ⟨n, hn⟩ : ∃ n, ds.length = n + 1 := ⟨ds.length - 1, by omega⟩
        obtain ⟨x, hx⟩ : ∃ x, ds[0]? = some x := ⟨_, List.getElem?_eq_getElem (by omega)⟩
        obtain ⟨z, hz⟩ : ∃ z, ds[n]? = some z := ⟨_, List.getElem?_eq_getElem (by omega)⟩
        rw [tparse2_eq ds n x z hn (by omega) hx hz] at h ⊢
        by_cases c1 : (tcheck (ds.take n) : Int) ≠ z
        · rw [if_pos c1] at h; simp at h
        · rw [if_neg c1] at h ⊢
          by_cases c2 : 1 < n ∧ ds.getD 1 0 = 0
          · rw [if_pos c2] at h; simp at h
          · rw [if_neg c2] at h ⊢
            by_cases c3 : 1125899906842624 < rval ((ds.take n).drop 1)
            · rw [if_pos c3] at h; simp at h
            · rw [if_neg c3] at h ⊢
              by_cases c4 : 8 ≤ x
              · rw [if_pos c4] at h; simp at h
              · rw [if_neg c4]
                obtain ⟨x0, x1⟩ := hd x (List.mem_of_getElem? hx)
                obtain ⟨t, rfl⟩ : ∃ t, ds = x :: t := by
                  cases ds with
                  | nil => simp at hx
                  | cons y t => simp only [List.getElem?_cons_zero, Option.some.injEq] at hx; exact ⟨t, by rw [hx]⟩
                obtain ⟨m, rfl⟩ : ∃ m, n = m + 1 := ⟨n - 1, by simp only [List.length_cons] at hn hshort; omega⟩
                have em : ((x :: t).take (m + 1)).drop 1 = t.take m := rfl
                rw [em] at c3 ⊢
                have hdm : digs (t.take m) := fun d hh => hd d (List.mem_cons_of_mem _ (List.mem_of_mem_take hh))
                have hr0 := rval_nonneg _ hdm
                have hlow := (low_rval_aux _ (t.take m) rfl hdm (fun d u e hd0 => c2 ⟨by
                    cases m with
                    | zero => simp at e
                    | succ m => omega, by
                    cases t with
                    | nil => simp at e
                    | cons y t =>
                      cases m with
                      | zero => simp at e
                      | succ m =>
                        simp only [List.take_succ_cons, List.cons.injEq] at e
                        show y = 0
                        rw [e.1, hd0]⟩)).1
                refine ⟨x.toNat, (rval (t.take m)).toNat, by omega, by omega, ?_, ?_⟩
                · congr 1
                  · omega
                  · congr 1; omega
                · rw [← hms]
                  congr 1
                  have hz' : t[m]? = some z := by simpa using hz
                  have hc1 : (tcheck (x :: t.take m) : Int) = z := by simpa using c1
                  have eb : tbody x.toNat (rval (t.take m)).toNat = x :: t.take m := by
                    unfold tbody
                    rw [hlow, List.reverse_reverse]
                    congr 1
                    omega
                  unfold tdigits
                  rw [eb, hc1]
                  have : t = t.take m ++ [z] := by
                    have h1 : t.take (m + 1) = t := List.take_of_length_le (by simp only [List.length_cons] at hn; omega)
                    rw [← take_snoc_of hz', h1]
                  rw [List.cons_append, ← this]
end Go.Proofs.Ytloiclalcepbeaa
