/- What a call owns beside what was owned ahead of it. -/
import Derived.Test.YtenblkbieaadnaaFocus
set_option linter.unusedVariables false
namespace Go.Proofs.Ytenblkbieaadnaa
open Go.RowKit Go.Proofs.YtenblkbieaadnaaW.PrintWords
theorem Hw.trans {w0 w1 w2 : World} {P Q : HP} (h : Hw w0 w1 P) (g : Hw w1 w2 Q) : Hw w0 w2 (Q * P) := by
  obtain ⟨hb, x, hp, hw⟩ := h.from_below g.below
  obtain ⟨hb0, x0, hp0, hw0⟩ := h
  obtain ⟨gb, y, hq, gw⟩ := g
  have hlt : ∀ i o, x0 i = some o → i < w1.heap.size := fun i o hi => (Array.getElem?_eq_some_iff.1 (hw0 i o hi).2).1
  refine ⟨hb, fun i => (y i).or (x0 i), ⟨y, x0, fun i => ?_, fun i => rfl, hq, hp0⟩, fun i o hi => ?_⟩
  · cases hy : y i with
    | none => exact .inl rfl
    | some o =>
      cases hx : x0 i with
      | none => exact .inr rfl
      | some o' =>
        have h1 := hlt i o' hx
        have h2 := (gw i o hy).1
        omega
  · simp only at hi
    cases hy : y i with
    | none =>
      rw [hy, Option.none_or] at hi
      have h1 := hlt i o hi
      exact ⟨(hw0 i o hi).1, (gb.block i h1).trans (hw0 i o hi).2⟩
    | some o' =>
      rw [hy, Option.some_or] at hi
      injection hi with hi
      subst hi
      exact ⟨Nat.le_trans hb0.size (gw i _ hy).1, (gw i _ hy).2⟩
end Go.Proofs.Ytenblkbieaadnaa
