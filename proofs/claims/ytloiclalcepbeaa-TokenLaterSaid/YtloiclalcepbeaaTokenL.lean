/- Tokens, plain: the later of some. -/
import Derived.Test.YtloiclalcepbeaaTokenH
set_option linter.unusedVariables false
set_option linter.unusedSimpArgs false
namespace Go.Proofs.Ytloiclalcepbeaa
def isLater (t f : Int × Int) : Prop := f.2 < t.2 ∨ (t.2 = f.2 ∧ t.1 < f.1)
def top (b : Int × Int) (S : List (Int × Int)) : Prop := b ∈ S ∧ ∀ t ∈ S, ¬ isLater t b
theorem laters_top : ∀ (ts : List (Int × Int)) (f : Int × Int), top (laters f ts) (f :: ts)
  | [], f => ⟨by simp [laters], fun t ht => by
    have : t = f := by simpa using ht
    subst this
    show ¬ isLater t t
    unfold isLater; omega⟩
  | t :: ts, f => by
    obtain ⟨h1, h2⟩ := laters_top ts (later f t)
    have e : laters f (t :: ts) = laters (later f t) ts := rfl
    rw [e]
    obtain ⟨b, hb⟩ : ∃ b, b = laters (later f t) ts := ⟨_, rfl⟩
    rw [← hb] at h1 h2 ⊢
    have h3 := h2 _ (List.mem_cons_self ..)
    constructor
    · rcases List.mem_cons.1 h1 with h | h
      · rw [h]
        unfold later
        split <;> simp
      · simp [h]
    · intro s hs
      have key : ¬ isLater f b ∧ ¬ isLater t b := by
        unfold isLater later at *
        split at h3 <;> constructor <;> omega
      rcases List.mem_cons.1 hs with rfl | hs
      · exact key.1
      · rcases List.mem_cons.1 hs with rfl | hs
        · exact key.2
        · exact h2 s (by simp [hs])
theorem top_one {b c : Int × Int} {S T : List (Int × Int)} (hb : top b S) (hc : top c T) (h : ∀ t, t ∈ S ↔ t ∈ T) : b = c := by
  have h1 := hb.2 c ((h c).2 hc.1)
  have h2 := hc.2 b ((h b).1 hb.1)
  unfold isLater at h1 h2
  obtain ⟨b1, b2⟩ := b
  obtain ⟨c1, c2⟩ := c
  simp only at h1 h2
  congr 1 <;> omega
theorem laters_turned (f : Int × Int) (ts : List (Int × Int)) : laters f (ts.reverse ++ [f]) = laters f ts :=
  top_one (laters_top _ f) (laters_top ts f) (fun t => by
    simp only [List.mem_cons, List.mem_append, List.mem_reverse, List.not_mem_nil, or_false]
    constructor
    · rintro (h | h | h)
      · exact .inl h
      · exact .inr h
      · exact .inl h
    · rintro (h | h)
      · exact .inl h
      · exact .inr (.inl h))
end Go.Proofs.Ytloiclalcepbeaa
