/- Maps from texts to numbers; a map that is ranged over and only read. -/
import Derived.Test.YtehbchggekbkkaaMaps
import Derived.StringKeys
import Derived.Maps.RangeWalk
set_option linter.unusedVariables false
set_option linter.unusedSimpArgs false
namespace Go.Proofs.Ytehbchggekbkkaa
open Go.RowKit Go.Maps Go.ChangeMaps Go.MapKept Go.Proofs.YtehbchggekbkkaaW.PrintWords
theorem View.entry {D : DataW Value} {g : Lit → Option Value} {n : Nat} (h : View D g n) (kl : Lit) (c : Value) (hc : ∀ zd, D.atKey kl zd = .held c) : g kl = some c := by
  have h1 := (h.2 kl).2
  cases hg : g kl with
  | none =>
    have := h1 .nil
    rw [hc, hg] at this
    cases this
  | some v =>
    have := h1 .nil
    rw [hc, hg] at this
    simp only [Option.map_some, Option.getD_some, DataW.held.injEq] at this
    rw [this]
theorem grown_trans {a b c : World} {r : Nat} (h1 : a.grownBy b none) (h2 : b.grownBy c (some r)) (hr : a.heap.size ≤ r) : a.grownBy c none :=
  ⟨h2.os.trans h1.os, h2.tape.trans h1.tape, h2.output.trans h1.output, Nat.le_trans h1.size h2.size, fun k hk _ =>
    (h2.block k (Nat.lt_of_lt_of_le hk h1.size) (by simp; omega)).trans (h1.block k hk (by simp))⟩
theorem Hw.grown {w0 w w1 : World} {P : HP} (h : Hw w0 w P) (hg : w.grownBy w1 none) : Hw w0 w1 P := h.step hg.os hg.tape hg.output hg.size (fun i hi => hg.block i hi (by simp))
end Go.Proofs.Ytehbchggekbkkaa
