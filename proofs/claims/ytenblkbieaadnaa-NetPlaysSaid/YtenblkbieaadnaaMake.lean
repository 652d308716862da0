/- Rows that are made; a whole array stored. -/
import Derived.Test.YtenblkbieaadnaaFocus
import Derived.Laws.Tables
set_option linter.unusedVariables false
set_option linter.unusedSimpArgs false
namespace Go.Proofs.Ytenblkbieaadnaa
open Go.RowKit Go.Proofs.YtenblkbieaadnaaW.PrintWords
section
variable {P : Program} {ops : Array Oper} {rest : List Oper} {o : Oper} {a : Act} {Q : Exit → Act → World → Prop} {w0 W : World} {F : HP}
theorem Hw.store_row (hgd : o.guard = none) (ty : TypeId) (x y : Operand) (ho : o.op = .store ty x y) (g : Nat) (cells : Array Value) (hx : a.eval x = .pointer (some ⟨g, 0, none⟩)) (hy : a.eval y = .agg cells)
    {e : TypeId} {old : Array Value} (h : Hw w0 W (blk g (.cells old e (0, 0)) * F)) (hi : (P.info? ty).map (·.size) = some cells.size) (hold : old.size = cells.size) (h1 : cells.all (·.oneCell') = true)
    (K : ∀ w1, Aside0 (Hw w0 w1 (blk g (.cells cells e (0, 0)) * F)) → wpList P ops Q rest (a.put o.dst undef) w1) : wpList P ops Q (o :: rest) a W := by
  have hg := h.blk_at.1
  refine wpList_store_row hgd ty x y ho g cells hx hy e old hg hi hold h1 (K _ ⟨?_⟩)
  refine h.turn rfl rfl rfl (by simp [World.setRow]) (fun i hi hne => ?_) ?_
  · simp [World.setRow, Array.getElem?_modify, Ne.symm hne]
  · simp [World.setRow, Array.getElem?_modify, hg]
theorem Hw.make_int {k : IntKind} (hgd : o.guard = none) (t e : TypeId) (x y : Operand) (ho : o.op = .makeSlice t x y) (bytes : Nat) (ht : P.underlying t = some (.slice e)) (hinfo : (P.info? e).map (fun i => (i.zero, i.size, i.bytes)) = some (some (.int k 0), 1, bytes)) (hb0 : 0 < bytes)
    (j : Int) (m : Nat) (hj : j = m) (hn : m * bytes ≤ 281474976710656) (hx : a.eval x = .int .i64 j) (hy : a.eval y = .int .i64 j) (h : Hw w0 W F)
    (K : ∀ g w1, Aside0 (Hw w0 w1 (row (Kd.int k) e (.slice (some ⟨g, 0, none⟩) m m) (List.replicate m 0) * F)) → wpList P ops Q rest (a.put o.dst (.slice (some ⟨g, 0, none⟩) m m)) w1) : wpList P ops Q (o :: rest) a W := by
  subst hj
  have hrun := print_make (P := P) t e k bytes ht hinfo hb0 m hn W
  have hm : m ≤ 9223372036854775807 := by
    have : m ≤ m * bytes := Nat.le_mul_of_pos_right _ hb0
    omega
  refine wpList_plain hgd fun Kc hK => ?_
  unfold Oper.wp
  simp [execOp, ho, hx, hy, hrun, Result.andThen]
  refine hK _ _ (K W.heap.size _ ⟨?_⟩)
  have h2 := h.alloc (.cells (madeCells #[Value.int k 0] m) e)
  rw [madeCells_int] at h2 ⊢
  exact Hw.row_of_blk (enc := Value.int k) (h1 := fun _ => rfl) (xs := List.replicate m 0) (by simp) (by simpa using hm) h2
end
end Go.Proofs.Ytenblkbieaadnaa
