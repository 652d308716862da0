/- Tokens: a row turned about; Print. -/
import Derived.Test.YtloiclalcepbeaaTokenB
import Derived.Test.YtloiclalcepbeaaTokenS
set_option linter.unusedVariables false
set_option linter.unusedSimpArgs false
namespace Go.Proofs.Ytloiclalcepbeaa
open Go.RowKit Go.Proofs.YtloiclalcepbeaaW.PrintWords Go.Proofs.YtloiclalcepbeaaW.PrintLast
section
variable {α : Type} {enc : α → Value} {h1 : ∀ x, (enc x).oneCell' = true} {w0 w : World} {F : HP}
theorem Hw.row_puts {e g c : Nat} : ∀ (ys : List α) (o : Nat) (xs : List α) (w : World) (n : Nat), n = xs.length → o + ys.length ≤ xs.length →
    Hw w0 w (row (Kd.scalar enc h1) e (.slice (some ⟨g, 0, none⟩) n c) xs * F) → Hw w0 (w.setCells g o (ys.map enc)) (row (Kd.scalar enc h1) e (.slice (some ⟨g, 0, none⟩) n c) (xs.take o ++ ys ++ xs.drop (o + ys.length)) * F)
  | [], o, xs, w, n, hn, hl, h => by simpa [World.setCells] using h
  | y :: ys, o, xs, w, n, hn, hl, h => by
    simp only [List.length_cons] at hl
    subst hn
    have h2 := h.row_put o y
    have h3 := Hw.row_puts ys (o + 1) (xs.set o y) _ xs.length (by simp) (by simp; omega) h2
    have e1 : (xs.set o y).take (o + 1) ++ ys ++ (xs.set o y).drop (o + 1 + ys.length) = xs.take o ++ (y :: ys) ++ xs.drop (o + (y :: ys).length) := by
      rw [take_snoc_of (List.getElem?_set_self (by omega)), List.take_set_of_le (Nat.le_refl o), List.drop_set_of_lt (by omega)]
      simp only [List.length_cons, List.append_assoc, List.cons_append, List.nil_append]
      rw [show o + 1 + ys.length = o + (ys.length + 1) by omega]
    rw [e1] at h3
    exact h3
end
section
variable {w0 w : World} {F : HP}
theorem rev_ok (A : Option Addr) (n c : Nat) (hs : List Int) (hm : hs.length ≤ 4096) (h : Hw w0 w (row (Kd.int .i64) 3 (.slice A n c) hs * F)) :
    Calls Try.prog 31 #[.slice A n c] w fun e w' => e = .returned (.tuple #[]) ∧ Hw w0 w' (row (Kd.int .i64) 3 (.slice A n c) hs.reverse * F) := by
  have hn := h.row_C.1
  by_cases h0 : hs = []
  · subst h0
    simp only [List.length_nil] at hn
    subst hn
    refine (Try.slices_Reverse_int_empty A c w).mono ?_
    rintro e w' ⟨rfl, rfl⟩
    exact ⟨rfl, h⟩
  · have hp : 0 < hs.length := List.length_pos_iff.2 h0
    obtain ⟨g, c', e1⟩ := h.row_form hp
    injection e1 with e1 e2 e3
    subst e1 e2 e3
    refine (Try.slices_Reverse_int_cells g 0 hs.length c hs w (Nat.le_refl _) (by omega) (fun j hj => ?_) (fun j hj => ?_)).mono ?_
    · have := (Hw.row_cell (enc := Value.int .i64) (h1 := fun _ => rfl) h j hs[j] (List.getElem?_eq_getElem hj)).1
      rw [Nat.zero_add, this, List.getD_eq_getElem?_getD, List.getElem?_eq_getElem hj]
      rfl
    · rw [Nat.zero_add]
      exact (Hw.row_cell (enc := Value.int .i64) (h1 := fun _ => rfl) h j hs[j] (List.getElem?_eq_getElem hj)).2
    · rintro e w' ⟨rfl, q, rfl⟩
      refine ⟨rfl, ?_⟩
      rw [List.take_length]
      have h3 := Hw.row_puts (enc := Value.int .i64) (h1 := fun _ => rfl) hs.reverse 0 hs _ hs.length rfl (by simp) (h.drewN q)
      have e : hs.take 0 ++ hs.reverse ++ hs.drop (0 + hs.reverse.length) = hs.reverse := by simp
      rw [e] at h3
      exact h3
/-- A builder's row, as the shelf says it. -/
theorem builder_is {b c : Nat} {A : Option Addr} {p : Value} {xs : List Int} (hb : w0.heap.size = b) (hp : p = .pointer none ∨ p = bptr b) (h : Hw w0 w (blk b (bobj p (.slice A xs.length c)) * (row (Kd.int .u8) 5 (.slice A xs.length c) xs * F))) :
    Lib.IsBuilder 72 5 b b (xs.map (Value.int .u8)) w := by
  subst hb
  have hbk := h.blk_at.1
  have h2 := h.as (Q := row (Kd.int .u8) 5 (.slice A xs.length c) xs * (blk w0.heap.size (bobj p (.slice A xs.length c)) * F)) (by ac_rfl)
  obtain ⟨ok, hp', hw', _⟩ := h2.split
  have hR := hp' w (fun i o hi => (hw' i o hi).2)
  have hown := Kd.own_of_R (enc := Value.int .u8) (h1 := fun _ => rfl) hR
  have hbase : ∀ k, (Value.slice A xs.length c).ownBlock = some k → w0.heap.size ≤ k := fun k hk => by
    obtain ⟨o, ho⟩ := Option.isSome_iff_exists.1 (hR.1 k hk)
    exact (hw' k o ho).1
  have hown2 : w.ownsRow w0.heap.size 5 1 (.slice A xs.length c) (xs.map (Value.int .u8)).length (xs.map (Value.int .u8)) := by
    rw [List.length_map]
    refine ⟨hown.1, ?_⟩
    rcases hown.2 with h | ⟨g, cap, cur, hv, _, r⟩
    · exact .inl h
    · exact .inr ⟨g, cap, cur, hv, hbase g (by rw [hv]; rfl), r⟩
  have hne := Lib.ownBlock_ne hown2 hbk (by decide)
  rcases hp with rfl | rfl
  · exact .inl ⟨Nat.le_refl _, _, hbk, hown2, hne⟩
  · exact .inr ⟨Nat.le_refl _, _, hbk, hown2, hne⟩
theorem bstring_ok {b c : Nat} {A : Option Addr} {p : Value} {xs : List Int} (hb : w0.heap.size = b) (hp : p = .pointer none ∨ p = bptr b) (hx : bytes xs) (h : Hw w0 w (blk b (bobj p (.slice A xs.length c)) * (row (Kd.int .u8) 5 (.slice A xs.length c) xs * F))) :
    Calls Try.prog 34 #[bptr b] w fun e w' => e = .returned (.string (strOfNums xs)) ∧ Below w0.heap.size w0 w' := by
  have hI := builder_is hb hp h
  have e1 : Lib.byteCells (xs.map fun n => UInt8.ofNat n.toNat) = xs.map (Value.int .u8) := by
    unfold Lib.byteCells
    rw [List.map_map]
    refine List.map_congr_left fun x hx' => ?_
    obtain ⟨h0, h1⟩ := hx x hx'
    show Value.int .u8 _ = _
    congr 1
    have : (UInt8.ofNat x.toNat).toNat = x.toNat := by rw [UInt8.toNat_ofNat']; omega
    simp [this]
    omega
  refine (Try.Builder_String_any b b (xs.map fun n => UInt8.ofNat n.toNat) w (by rw [e1]; exact hI) (by have := h.lt; omega)).mono ?_
  rintro e w' ⟨rfl, hB⟩
  subst hb
  refine ⟨?_, h.below.trans hB⟩
  rfl
end
end Go.Proofs.Ytloiclalcepbeaa
