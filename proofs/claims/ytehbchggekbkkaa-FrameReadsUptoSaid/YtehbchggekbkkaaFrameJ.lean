/- What is cut from frames one behind the other: plain laws. -/
import Derived.Test.YtehbchggekbkkaaFrameD
set_option linter.unusedVariables false
set_option linter.unusedSimpArgs false
namespace Go.Proofs.Ytehbchggekbkkaa
theorem openTxt_isB (xs : List Int) (hb : isB xs) : isB (openTxt xs) := by
  unfold openTxt
  split
  · exact fun x hx => hb x (List.mem_of_mem_take (List.mem_of_mem_drop hx))
  · intro x hx; simp at hx
/-- What is opened is opened with anything behind it. -/
theorem open_prefix (xs ys : List Int) (hb : isB xs) (h : openErr xs = 0) : openErr (xs ++ ys) = 0 ∧ openTxt (xs ++ ys) = openTxt xs ∧ rd4 (xs ++ ys) = rd4 xs := by
  obtain ⟨v, hv, hv1, hv2, hend, htl, hseal⟩ := seal_open xs hb h
  have hx : xs = sealOf (openTxt xs) ++ xs.drop (8 + v) := by rw [hseal, List.take_append_drop]
  have hxy : xs ++ ys = sealOf (openTxt xs) ++ (xs.drop (8 + v) ++ ys) := by
    conv => lhs; rw [hx]
    rw [List.append_assoc]
  obtain ⟨o1, o2, o3⟩ := open_seal (openTxt xs) (xs.drop (8 + v) ++ ys) (openTxt_isB xs hb) (by rw [htl]; exact hv1)
  rw [← hxy] at o1 o2 o3
  refine ⟨o1, o2, ?_⟩
  have e1 : openEnd (xs ++ ys) = 8 + rd4 (xs ++ ys) := by unfold openEnd; rw [if_pos o1]
  rw [e1, htl] at o3
  omega
theorem cutOf_end (n : Nat) : ∀ (xs : List Int), xs.length ≤ n → isB xs → ((cutOf xs).2.2 = 0 ∧ (cutOf xs).2.1 = xs.length) ∨ ((cutOf xs).2.2 ≠ 0 ∧ (cutOf xs).2.1 < xs.length) := by
  induction n with
  | zero =>
    intro xs hl _
    obtain rfl : xs = [] := List.eq_nil_of_length_eq_zero (by omega)
    exact .inl ⟨rfl, rfl⟩
  | succ n ih =>
    intro xs hl hb
    by_cases h0 : xs.length = 0
    · obtain rfl : xs = [] := List.eq_nil_of_length_eq_zero h0
      exact .inl ⟨rfl, rfl⟩
    · by_cases ho : openErr xs = 0
      · obtain ⟨v, hv, hv1, hv2, _⟩ := seal_open xs hb ho
        have hs := cutOf_step xs h0 ho
        rw [hv, Int.toNat_natCast] at hs
        have := ih (xs.drop (8 + v)) (by rw [List.length_drop]; omega) (fun x hx => hb x (List.mem_of_mem_drop hx))
        rw [hs]
        rw [List.length_drop] at this
        rcases this with ⟨h1, h2⟩ | ⟨h1, h2⟩
        · exact .inl ⟨h1, by show 8 + v + _ = _; omega⟩
        · exact .inr ⟨h1, by show 8 + v + _ < _; omega⟩
      · rw [cutOf_bad xs h0 ho]
        exact .inr ⟨ho, by show 0 < xs.length; omega⟩
theorem cutOf_count (n : Nat) : ∀ (xs : List Int), xs.length ≤ n → isB xs → (cutOf xs).1.length * 8 ≤ xs.length := by
  induction n with
  | zero =>
    intro xs hl _
    obtain rfl : xs = [] := List.eq_nil_of_length_eq_zero (by omega)
    exact Nat.le_refl _
  | succ n ih =>
    intro xs hl hb
    by_cases h0 : xs.length = 0
    · obtain rfl : xs = [] := List.eq_nil_of_length_eq_zero h0
      exact Nat.le_refl _
    · by_cases ho : openErr xs = 0
      · obtain ⟨v, hv, hv1, hv2, _⟩ := seal_open xs hb ho
        have hs := cutOf_step xs h0 ho
        rw [hv, Int.toNat_natCast] at hs
        have := ih (xs.drop (8 + v)) (by rw [List.length_drop]; omega) (fun x hx => hb x (List.mem_of_mem_drop hx))
        rw [hs]
        rw [List.length_drop] at this
        show ((cutOf (xs.drop (8 + v))).1.length + 1) * 8 ≤ _
        omega
      · rw [cutOf_bad xs h0 ho]
        exact Nat.zero_le _
/-- Frames, and anything behind them. -/
theorem cutOf_join (n : Nat) : ∀ (xs ys : List Int), xs.length ≤ n → isB xs → (cutOf xs).2.2 = 0 → cutOf (xs ++ ys) = ((cutOf xs).1 ++ (cutOf ys).1, xs.length + (cutOf ys).2.1, (cutOf ys).2.2) := by
  induction n with
  | zero =>
    intro xs ys hl _ _
    obtain rfl : xs = [] := List.eq_nil_of_length_eq_zero (by omega)
    rw [List.nil_append, cutOf_nil]
    simp
  | succ n ih =>
    intro xs ys hl hb h
    by_cases h0 : xs.length = 0
    · obtain rfl : xs = [] := List.eq_nil_of_length_eq_zero h0
      rw [List.nil_append, cutOf_nil]
      simp
    · by_cases ho : openErr xs = 0
      · obtain ⟨v, hv, hv1, hv2, _⟩ := seal_open xs hb ho
        have hs := cutOf_step xs h0 ho
        rw [hv, Int.toNat_natCast] at hs
        rw [hs] at h
        have hr := ih (xs.drop (8 + v)) ys (by rw [List.length_drop]; omega) (fun x hx => hb x (List.mem_of_mem_drop hx)) h
        obtain ⟨p1, p2, p3⟩ := open_prefix xs ys hb ho
        have hs2 := cutOf_step (xs ++ ys) (by rw [List.length_append]; omega) p1
        rw [p2, p3, hv, Int.toNat_natCast, List.drop_append_of_le_length hv2, hr] at hs2
        rw [hs2, hs]
        rw [List.length_drop]
        refine Prod.ext rfl (Prod.ext ?_ rfl)
        show 8 + v + (xs.length - (8 + v) + _) = xs.length + _
        omega
      · rw [cutOf_bad xs h0 ho] at h
        exact absurd h ho
/-- Payloads framed one behind the other. -/
def sealAll (ls : List (List Int)) : List Int := (ls.map sealOf).flatten
theorem sealAll_isB (ls : List (List Int)) (hb : ∀ x ∈ ls, isB x) : isB (sealAll ls) := by
  intro y hy
  unfold sealAll at hy
  rw [List.mem_flatten] at hy
  obtain ⟨z, hz, hyz⟩ := hy
  obtain ⟨x, hx, rfl⟩ := List.mem_map.1 hz
  exact sealOf_isB x (hb x hx) y hyz
theorem cutOf_seal (x ys : List Int) (hb : isB x) (hl : x.length ≤ 16384) : cutOf (sealOf x ++ ys) = (x :: (cutOf ys).1, 8 + x.length + (cutOf ys).2.1, (cutOf ys).2.2) := by
  obtain ⟨o1, o2, o3⟩ := open_seal x ys hb hl
  have hlen : (sealOf x ++ ys).length ≠ 0 := by rw [List.length_append, sealOf_len]; omega
  have hs := cutOf_step (sealOf x ++ ys) hlen o1
  have e1 : openEnd (sealOf x ++ ys) = 8 + rd4 (sealOf x ++ ys) := by unfold openEnd; rw [if_pos o1]
  have hr : rd4 (sealOf x ++ ys) = x.length := by rw [e1] at o3; omega
  rw [hr, Int.toNat_natCast, o2, List.drop_left' (sealOf_len x)] at hs
  exact hs
theorem cutOf_sealAll : ∀ (ls : List (List Int)) (ys : List Int), (∀ x ∈ ls, isB x ∧ x.length ≤ 16384) → cutOf (sealAll ls ++ ys) = (ls ++ (cutOf ys).1, (sealAll ls).length + (cutOf ys).2.1, (cutOf ys).2.2)
  | [], ys, _ => by simp [sealAll]
  | x :: ls, ys, h => by
    have hx := h x (.head _)
    have ih := cutOf_sealAll ls ys (fun z hz => h z (.tail _ hz))
    have e : sealAll (x :: ls) ++ ys = sealOf x ++ (sealAll ls ++ ys) := by simp [sealAll]
    have el : (sealAll (x :: ls)).length = 8 + x.length + (sealAll ls).length := by
      have : sealAll (x :: ls) = sealOf x ++ sealAll ls := by simp [sealAll]
      rw [this, List.length_append, sealOf_len]
    rw [e, cutOf_seal x _ hx.1 hx.2, ih, el]
    refine Prod.ext rfl (Prod.ext ?_ rfl)
    show 8 + x.length + ((sealAll ls).length + _) = 8 + x.length + (sealAll ls).length + _
    omega
/-- A frame that is cut short. -/
theorem cutOf_short (x : List Int) (hb : isB x) (hl : x.length ≤ 16384) (m : Nat) (hm : 0 < m) (hm2 : m < 8 + x.length) : cutOf ((sealOf x).take m) = ([], 0, 10) := by
  have hlen : ((sealOf x).take m).length = m := by rw [List.length_take, sealOf_len]; omega
  have ho : openErr ((sealOf x).take m) = 10 := by
    unfold openErr
    rw [hlen]
    by_cases h8 : m < 8
    · rw [if_pos h8]
    · rw [if_neg h8]
      have hr : rd4 ((sealOf x).take m) = x.length := by
        have h1 : rd4 (((sealOf x).take m).take 4) = rd4 ((sealOf x).take m) := rd4_take _
        rw [← h1, List.take_take, show min 4 m = 4 by omega, rd4_take]
        unfold sealOf
        rw [List.append_assoc]
        exact rd4_be4 _ (by omega) (by omega) _
      rw [hr, if_neg (by omega), if_pos (by omega)]
  rw [cutOf_bad _ (by rw [hlen]; omega) (by rw [ho]; decide), ho]
end Go.Proofs.Ytehbchggekbkkaa
