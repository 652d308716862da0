/- How often each text is on its way: plain laws. -/
import Derived.Test.YtehbchggekbkkaaNetE
import Derived.Test.YtehbchggekbkkaaNetAwake
import Derived.Test.YtehbchggekbkkaaMapsB
import Derived.Test.YtehbchggekbkkaaText
set_option linter.unusedVariables false
set_option linter.unusedSimpArgs false
namespace Go.Proofs.Ytehbchggekbkkaa
open Go.RowKit Go.Proofs.YtehbchggekbkkaaW.PrintWords
def kOf (xs : List Int) : Lit := .string (strOfNums xs).data.toList
open Classical in
noncomputable def cntK (kl : Lit) (ps : List Pkt) : Nat := (ps.map fun p => if kOf p.2.2 = kl then 1 else 0).sum
open Classical in
theorem cntK_snoc (kl : Lit) (ps : List Pkt) (f t : Int) (xs : List Int) : cntK kl (ps ++ [(f, t, xs)]) = cntK kl ps + if kOf xs = kl then 1 else 0 := by
  unfold cntK
  rw [List.map_append, List.sum_append_nat]
  simp
open Classical in
theorem cntK_erase (kl : Lit) : ∀ (ps : List Pkt) (i : Nat) (f t : Int) (xs : List Int), ps[i]? = some (f, t, xs) → cntK kl ps = cntK kl (ps.eraseIdx i) + if kOf xs = kl then 1 else 0
  | [], i, f, t, xs, h => by simp at h
  | p :: ps, 0, f, t, xs, h => by
    obtain rfl : p = (f, t, xs) := by simpa using h
    unfold cntK
    simp only [List.map_cons, List.sum_cons, List.eraseIdx_cons_zero]
    omega
  | p :: ps, i + 1, f, t, xs, h => by
    have ih := cntK_erase kl ps i f t xs (by simpa using h)
    unfold cntK at ih ⊢
    simp only [List.map_cons, List.sum_cons, List.eraseIdx_cons_succ]
    omega
theorem cntK_le (kl : Lit) (ps : List Pkt) : cntK kl ps ≤ ps.length := by
  unfold cntK
  induction ps with
  | nil => exact Nat.le_refl _
  | cons p ps ih =>
    simp only [List.map_cons, List.sum_cons, List.length_cons]
    split <;> omega
theorem cntK_pos (ps : List Pkt) (i : Nat) (f t : Int) (xs : List Int) (h : ps[i]? = some (f, t, xs)) : 1 ≤ cntK (kOf xs) ps := by
  have := cntK_erase (kOf xs) ps i f t xs h
  rw [if_pos rfl] at this
  omega
/-- The map tells how often each text is on its way. -/
def MI (g : Lit → Option Value) (ps : List Pkt) : Prop := ∀ kl, (g kl).getD (.int .i64 0) = .int .i64 (cntK kl ps : Int)
theorem MI_start : MI noF [] := fun kl => rfl
open Classical in
theorem MI_put {g : Lit → Option Value} {ps : List Pkt} (h : MI g ps) (f t : Int) (xs : List Int) : MI (putF g (kOf xs) (.int .i64 ((cntK (kOf xs) ps : Int) + 1))) (ps ++ [(f, t, xs)]) := by
  intro kl
  rw [cntK_snoc]
  by_cases e : kl = kOf xs
  · subst e
    rw [putF_same, if_pos rfl]
    simp
  · rw [putF_other _ _ _ _ e, if_neg (Ne.symm e), Nat.add_zero]
    exact h kl
open Classical in
theorem MI_del {g : Lit → Option Value} {ps : List Pkt} (h : MI g ps) (i : Nat) (f t : Int) (xs : List Int) (hi : ps[i]? = some (f, t, xs)) : MI (putF g (kOf xs) (.int .i64 ((cntK (kOf xs) ps : Int) - 1))) (ps.eraseIdx i) := by
  intro kl
  have he := cntK_erase kl ps i f t xs hi
  by_cases e : kl = kOf xs
  · subst e
    rw [if_pos rfl] at he
    rw [putF_same]
    show Value.int .i64 _ = _
    congr 1
    omega
  · rw [if_neg (Ne.symm e)] at he
    rw [putF_other _ _ _ _ e, h kl]
    congr 1
    omega
theorem MI_end {g : Lit → Option Value} (h : MI g []) (kl : Lit) (v : Value) (hv : g kl = some v) : v = .int .i64 0 := by
  have := h kl
  rw [hv] at this
  exact this
/-- Packets of two nodes. -/
def Good (ps : List Pkt) : Prop := ∀ p ∈ ps, (0 ≤ p.1 ∧ p.1 ≤ 1 ∧ p.1 + p.2.1 = 1) ∧ bytes p.2.2 ∧ p.2.2.length ≤ 140737488351232
theorem Good_snoc {ps : List Pkt} (h : Good ps) (f t : Int) (xs : List Int) (h1 : 0 ≤ f ∧ f ≤ 1 ∧ f + t = 1) (h2 : bytes xs) (h3 : xs.length ≤ 140737488351232) : Good (ps ++ [(f, t, xs)]) := by
  intro p hp
  rcases List.mem_append.1 hp with hp | hp
  · exact h p hp
  · simp only [List.mem_cons, List.not_mem_nil, or_false] at hp
    subst hp
    exact ⟨h1, h2, h3⟩
theorem Good_erase {ps : List Pkt} (h : Good ps) (i : Nat) : Good (ps.eraseIdx i) := fun p hp => h p (List.mem_of_mem_eraseIdx hp)
end Go.Proofs.Ytehbchggekbkkaa
