/- The sink: the closures that write one thing, and the lists. Printed by gen/codel.py. -/
import Derived.Test.YtloiclalcepbeaaCodeS
import Derived.Test.YtloiclalcepbeaaArgs
set_option linter.unusedVariables false
set_option linter.unusedSimpArgs false
namespace Go.Proofs.Ytloiclalcepbeaa
open Go.RowKit Go.Proofs.YtloiclalcepbeaaW.PrintWords Go.Proofs.YtloiclalcepbeaaW.PrintLast
abbrev Tup := ByteArray × ByteArray × ByteArray
abbrev Mut := Bool × Tup
abbrev Rw := Tup × Int × Int
abbrev tupV (t : Tup) : Value := .agg #[.string t.1, .string t.2.1, .string t.2.2]
abbrev mutV (m : Mut) : Value := .agg #[.bool m.1, .string m.2.1, .string m.2.2.1, .string m.2.2.2]
abbrev rowV (r : Rw) : Value := .agg #[.string r.1.1, .string r.1.2.1, .string r.1.2.2, .int .i64 r.2.1, .int .i64 r.2.2]
def encM (m : Mut) : List Int := bitN m.1 :: encT m.2
def encR (r : Rw) : List Int := encT r.1 ++ encI r.2.1 ++ encI r.2.2
def fitsM (m : Mut) : Prop := fitsT m.2
def fitsR (r : Rw) : Prop := fitsT r.1
def okM (_ : Mut) : Prop := True
def okR (r : Rw) : Prop := i64r r.2.1 ∧ i64r r.2.2
instance (t : Tup) : Decidable (fitsT t) := by unfold fitsT; infer_instance
instance (m : Mut) : Decidable (fitsM m) := by unfold fitsM; infer_instance
instance (m : Rw) : Decidable (fitsR m) := by unfold fitsR; infer_instance
theorem encT_len (t : Tup) (h : fitsT t) : (encT t).length ≤ 414 := by
  obtain ⟨h1, h2, h3⟩ := h
  have e1 := (encI_len (t.1.size : Int) (by unfold i64r; omega)).2
  have e2 := (encI_len (t.2.1.size : Int) (by unfold i64r; omega)).2
  have e3 := (encI_len (t.2.2.size : Int) (by unfold i64r; omega)).2
  unfold encT
  simp only [List.length_append, numsOf_len]
  omega
theorem encM_len (m : Mut) (_ : okM m) (h : fitsM m) : (encM m).length ≤ 440 := by
  have := encT_len m.2 h
  unfold encM
  simp only [List.length_cons]
  omega
theorem encR_len (r : Rw) (h0 : okR r) (h : fitsR r) : (encR r).length ≤ 440 := by
  have := encT_len r.1 h
  have e1 := (encI_len r.2.1 h0.1).2
  have e2 := (encI_len r.2.2 h0.2).2
  unfold encR
  simp only [List.length_append]
  omega
theorem flat_len {α : Type} (enc : α → List Int) (b : Nat) : ∀ (l : List α), (∀ x ∈ l, (enc x).length ≤ b) → (l.flatMap enc).length ≤ b * l.length
  | [], _ => by simp
  | x :: l, h => by
    have h1 := flat_len enc b l (fun y hy => h y (.tail _ hy))
    have h2 := h x (.head _)
    rw [List.flatMap_cons, List.length_append, List.length_cons, Nat.mul_add, Nat.mul_one]
    omega
theorem flat_take {α : Type} (enc : α → List Int) {l : List α} {k : Nat} {x : α} (h : l[k]? = some x) : (l.take (k + 1)).flatMap enc = (l.take k).flatMap enc ++ enc x := by
  rw [take_snoc_of h]; simp
/-- Something is written behind, or given up. -/
def SinkPost (w0 : World) (F : HP) (p : Nat) (xs : List Int) (fits : Prop) (enc : List Int) (e : Ending) (w' : World) : Prop :=
  (fits ∧ e = .returned (.tuple #[]) ∧ Hw w0 w' (sinkP p (xs ++ enc) * F)) ∨ (¬ fits ∧ e = thrown 2 ∧ ∃ ys, Hw w0 w' (sinkP p ys * F))
abbrev capP (b p : Nat) : HP := blk b (.cells #[.pointer (some ⟨p, 0, none⟩)] 110)
section
variable {w0 w : World} {F : HP} {p b : Nat} {xs : List Int}
theorem stuple_any (t : Tup) (hl : xs.length ≤ 140737488353000) (h : Hw w0 w (sinkP p xs * F)) :
    Calls Try.prog 57 #[.pointer (some ⟨p, 0, none⟩), .agg #[.string t.1, .string t.2.1, .string t.2.2]] w (SinkPost w0 F p xs (fitsT t) (encT t)) := by
  by_cases ht : fitsT t
  · exact (stuple_ok t ht hl h).mono fun e w' ⟨h1, h2⟩ => .inl ⟨ht, h1, h2⟩
  · exact (stuple_bad t ht hl h).mono fun e w' ⟨h1, h2⟩ => .inr ⟨ht, h1, h2⟩
theorem swap_in {A B R : HP} (h : Hw w0 w (A * (B * R))) : Hw w0 w (B * (A * R)) := h.as (by ac_rfl)

set_option maxHeartbeats 800000 in
theorem s2_one (m : Mut) (hl : xs.length ≤ 140737488352000) (h : Hw w0 w (sinkP p xs * (capP b p * F))) :
    Calls Try.prog 56 #[mutV m, .pointer (some ⟨b, 0, none⟩)] w (SinkPost w0 (capP b p * F) p xs (fitsM m) (encM m)) := by
  obtain ⟨d, t⟩ := m
  have H1 := Aside0.mk (h.alloc (.cells #[.bool d, .string t.1, .string t.2.1, .string t.2.2] 83))
  have c0 := H1.out.cell (i := 0) rfl
  have q0 := H1.out.cellAt b 0 (v := .pointer (some ⟨p, 0, none⟩)) rfl
  clear h
  show Calls Try.prog 56 #[.agg #[.bool d, .string t.1, .string t.2.1, .string t.2.2], .pointer (some ⟨b, 0, none⟩)] w _
  go_enter Try.func56, Try.ntmps56
  go_wp2_with fail
  refine (sflag_ok d (by omega) (H1.out.at (sinkP p xs))).mono ?_
  rintro e w1 ⟨rfl, g1⟩
  have H2 := Aside0.mk (g1.atB w.heap.size)
  have c1 := H2.out.cell (i := 1) rfl
  have c2 := H2.out.cell (i := 2) rfl
  have c3 := H2.out.cell (i := 3) rfl
  have q1 := H2.out.cellAt b 0 (v := .pointer (some ⟨p, 0, none⟩)) rfl
  clear g1 c0 q0 H1
  go_wp2_with fail
  refine (stuple_any t (by simp; omega) (H2.out.at (sinkP p (xs ++ [bitN d])))).mono ?_
  rintro e w2 (⟨hf, rfl, g2⟩ | ⟨hf, rfl, ys, g2⟩)
  · have H3 := Aside0.mk (g2.dropB w.heap.size)
    clear g2 H2 c1 c2 c3 q1
    go_wp2_with fail
    go_end0
    exact .inl ⟨hf, rfl, by unfold encM; simpa only [List.append_assoc, List.singleton_append] using H3.out⟩
  · exact ⟨rfl, .inr ⟨hf, rfl, ys, g2.dropB w.heap.size⟩⟩

set_option maxHeartbeats 800000 in
theorem s3_one (m : Mut) (hl : xs.length ≤ 140737488352000) (h : Hw w0 w (sinkP p xs * (capP b p * F))) :
    Calls Try.prog 59 #[mutV m, .pointer (some ⟨b, 0, none⟩)] w (SinkPost w0 (capP b p * F) p xs (fitsM m) (encM m)) := by
  obtain ⟨d, t⟩ := m
  have H1 := Aside0.mk (h.alloc (.cells #[.bool d, .string t.1, .string t.2.1, .string t.2.2] 91))
  have c0 := H1.out.cell (i := 0) rfl
  have q0 := H1.out.cellAt b 0 (v := .pointer (some ⟨p, 0, none⟩)) rfl
  clear h
  show Calls Try.prog 59 #[.agg #[.bool d, .string t.1, .string t.2.1, .string t.2.2], .pointer (some ⟨b, 0, none⟩)] w _
  go_enter Try.func59, Try.ntmps59
  go_wp2_with fail
  refine (sflag_ok d (by omega) (H1.out.at (sinkP p xs))).mono ?_
  rintro e w1 ⟨rfl, g1⟩
  have H2 := Aside0.mk (g1.atB w.heap.size)
  have c1 := H2.out.cell (i := 1) rfl
  have c2 := H2.out.cell (i := 2) rfl
  have c3 := H2.out.cell (i := 3) rfl
  have q1 := H2.out.cellAt b 0 (v := .pointer (some ⟨p, 0, none⟩)) rfl
  clear g1 c0 q0 H1
  go_wp2_with fail
  refine (stuple_any t (by simp; omega) (H2.out.at (sinkP p (xs ++ [bitN d])))).mono ?_
  rintro e w2 (⟨hf, rfl, g2⟩ | ⟨hf, rfl, ys, g2⟩)
  · have H3 := Aside0.mk (g2.dropB w.heap.size)
    clear g2 H2 c1 c2 c3 q1
    go_wp2_with fail
    go_end0
    exact .inl ⟨hf, rfl, by unfold encM; simpa only [List.append_assoc, List.singleton_append] using H3.out⟩
  · exact ⟨rfl, .inr ⟨hf, rfl, ys, g2.dropB w.heap.size⟩⟩

set_option maxHeartbeats 800000 in
theorem s4_one (r : Rw) (hr : okR r) (hl : xs.length ≤ 140737488352000) (h : Hw w0 w (sinkP p xs * (capP b p * F))) :
    Calls Try.prog 61 #[rowV r, .pointer (some ⟨b, 0, none⟩)] w (SinkPost w0 (capP b p * F) p xs (fitsR r) (encR r)) := by
  obtain ⟨t, s, u⟩ := r
  obtain ⟨hs, hu⟩ := hr
  simp only at hs hu
  have H1 := Aside0.mk (h.alloc (.cells #[.string t.1, .string t.2.1, .string t.2.2, .int .i64 s, .int .i64 u] 93))
  have c0 := H1.out.cell (i := 0) rfl
  have c1 := H1.out.cell (i := 1) rfl
  have c2 := H1.out.cell (i := 2) rfl
  have q0 := H1.out.cellAt b 0 (v := .pointer (some ⟨p, 0, none⟩)) rfl
  clear h
  show Calls Try.prog 61 #[.agg #[.string t.1, .string t.2.1, .string t.2.2, .int .i64 s, .int .i64 u], .pointer (some ⟨b, 0, none⟩)] w _
  go_enter Try.func61, Try.ntmps61
  go_wp2_with fail
  refine (stuple_any t (by omega) (H1.out.at (sinkP p xs))).mono ?_
  rintro e w1 (⟨hf, rfl, g1⟩ | ⟨hf, rfl, ys, g1⟩)
  · have H2 := Aside0.mk (g1.atB w.heap.size)
    have c3 := H2.out.cell (i := 3) rfl
    have q1 := H2.out.cellAt b 0 (v := .pointer (some ⟨p, 0, none⟩)) rfl
    have L1 := Aside0.mk (show (xs ++ encT t).length ≤ 140737488352500 by rw [List.length_append]; have := encT_len t hf; omega)
    have E1 := Aside0.mk (encI_len s hs)
    clear g1 c0 c1 c2 q0 H1
    go_wp2_with fail
    refine (sint_ok s hs (by have := L1.out; omega) (H2.out.at (sinkP p (xs ++ encT t)))).mono ?_
    rintro e w2 ⟨rfl, g2⟩
    have H3 := Aside0.mk (g2.atB w.heap.size)
    have c4 := H3.out.cell (i := 4) rfl
    have q2 := H3.out.cellAt b 0 (v := .pointer (some ⟨p, 0, none⟩)) rfl
    clear g2 c3 q1 H2
    go_wp2_with fail
    refine (sint_ok u hu (by rw [List.length_append]; have := L1.out; have := E1.out; omega) (H3.out.at (sinkP p (xs ++ encT t ++ encI s)))).mono ?_
    rintro e w3 ⟨rfl, g3⟩
    have H4 := Aside0.mk (g3.dropB w.heap.size)
    clear g3 c4 q2 H3
    go_wp2_with fail
    go_end0
    exact .inl ⟨hf, rfl, by unfold encR; simpa only [List.append_assoc] using H4.out⟩
  · exact ⟨rfl, .inr ⟨hf, rfl, ys, g1.dropB w.heap.size⟩⟩
set_option maxHeartbeats 800000 in
theorem s1_one (n : Int) (hn : i64r n) (hl : xs.length ≤ 140737488352000) (h : Hw w0 w (sinkP p xs * (capP b p * F))) :
    Calls Try.prog 54 #[.int .i64 n, .pointer (some ⟨b, 0, none⟩)] w fun e w' => e = .returned (.tuple #[]) ∧ Hw w0 w' (sinkP p (xs ++ encI n) * (capP b p * F)) := by
  have H1 := Aside0.mk h
  have q0 := H1.out.cellAt b 0 (v := .pointer (some ⟨p, 0, none⟩)) rfl
  clear h
  go_enter Try.func54, Try.ntmps54
  go_wp2_with fail
  refine (sint_ok n hn (by omega) H1.out).mono ?_
  rintro e w1 ⟨rfl, g1⟩
  have H2 := Aside0.mk g1
  clear g1 H1 q0
  go_wp2_with fail
  go_end0
  exact ⟨rfl, H2.out⟩
end
end Go.Proofs.Ytloiclalcepbeaa
