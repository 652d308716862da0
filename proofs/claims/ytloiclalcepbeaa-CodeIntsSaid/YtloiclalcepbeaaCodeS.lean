/- The sink: numbers, texts, flags, tuples written behind. -/
import Derived.Test.YtloiclalcepbeaaCode
import Derived.Test.YtloiclalcepbeaaAddText
import Derived.WalkSmall
set_option linter.unusedVariables false
set_option linter.unusedSimpArgs false
namespace Go.Proofs.Ytloiclalcepbeaa
open Go.RowKit Go.Proofs.YtloiclalcepbeaaW.PrintWords Go.Proofs.YtloiclalcepbeaaW.PrintLast
/-- A sink at block p, with these bytes. -/
def sinkP (p : Nat) (xs : List Int) : HP := HP.ex fun v : Value => blk p (.cells #[v] 85) * row (Kd.int .u8) 5 v xs
/-- What writing and reading give up with. -/
abbrev thrown (e : Int) : Ending := .panicked [{ v := .iface 141 (.agg #[.int .i64 e]), recovered := false }]
def bitN (b : Bool) : Int := if b then 1 else 0
def fitsT (t : ByteArray × ByteArray × ByteArray) : Prop := t.1.size ≤ 128 ∧ t.2.1.size ≤ 128 ∧ t.2.2.size ≤ 128
def encX (s : ByteArray) : List Int := encI s.size ++ numsOf s
def encT (t : ByteArray × ByteArray × ByteArray) : List Int := encI t.1.size ++ numsOf t.1 ++ (encI t.2.1.size ++ numsOf t.2.1) ++ (encI t.2.2.size ++ numsOf t.2.2)
section
variable {w0 w : World} {F : HP} {p : Nat} {xs : List Int}
theorem sink_open (h : Hw w0 w (sinkP p xs * F)) : ∃ (A : Option Addr) (n c : Nat), n = xs.length ∧ Hw w0 w (blk p (.cells #[.slice A n c] 85) * (row (Kd.int .u8) 5 (.slice A n c) xs * F)) := by
  obtain ⟨v, h⟩ := Hw.ex_mul.1 h
  obtain ⟨A, c, rfl, _⟩ := (h.as (Q := row (Kd.int .u8) 5 v xs * (blk p (.cells #[v] 85) * F)) (by ac_rfl)).row_reads
  exact ⟨A, xs.length, c, rfl, h.as (by ac_rfl)⟩
theorem sink_mk {v : Value} (h : Hw w0 w (blk p (.cells #[v] 85) * (row (Kd.int .u8) 5 v xs * F))) : Hw w0 w (sinkP p xs * F) := Hw.ex_mul.2 ⟨v, h.as (by ac_rfl)⟩
set_option maxHeartbeats 800000 in
theorem sint_ok (n : Int) (hn : i64r n) (hl : xs.length ≤ 140737488355000) (h : Hw w0 w (sinkP p xs * F)) :
    Calls Try.prog 51 #[.pointer (some ⟨p, 0, none⟩), .int .i64 n] w fun e w' => e = .returned (.tuple #[]) ∧ Hw w0 w' (sinkP p (xs ++ encI n) * F) := by
  obtain ⟨A, m, c, hm, h⟩ := sink_open h
  have H := Aside0.mk h
  have k0 := h.cell (i := 0) rfl
  have ML := Aside0.mk hm
  have hm2 : m ≤ 140737488355000 := by omega
  clear h hm hl
  go_enter Try.func51, Try.ntmps51
  go_wp2_with fail
  refine (putint_ok A m c xs n hn hm2 (Ent.of_row (e := 5) (c := c)) H.out).mono ?_
  rintro e w1 ⟨A1, m1, c1, rfl, hm1, h1⟩
  have H1 := Aside0.mk (h1.atB p)
  clear hm1
  have k1 := H1.out.cell (i := 0) rfl
  have f1 := H1.out.unfrozen 0
  have H2 := Aside0.mk (H1.out.set 0 (.slice A1 m1 c1))
  clear h1 k0
  go_wp2_with fail
  go_end0
  exact ⟨rfl, sink_mk ((H2.out.as (Q := blk p (.cells #[.slice A1 m1 c1] 85) * (row (Kd.int .u8) 5 (.slice A1 m1 c1) (xs ++ encI n) * F) * row (Kd.int .u8) 5 (.slice A m c) xs) (by
    show blk p (.cells #[.slice A1 m1 c1] 85) * _ = _
    ac_rfl)).left)⟩
set_option maxHeartbeats 800000 in
theorem stext_ok (t : ByteArray) (ht : t.size ≤ 128) (hl : xs.length ≤ 140737488354000) (h : Hw w0 w (sinkP p xs * F)) :
    Calls Try.prog 76 #[.pointer (some ⟨p, 0, none⟩), .string t] w fun e w' => e = .returned (.tuple #[]) ∧ Hw w0 w' (sinkP p (xs ++ encI t.size ++ numsOf t) * F) := by
  have d1 : decide ((128 : Int) < t.size) = false := decide_eq_false (by omega)
  have d2 : decide (128 < t.size) = false := decide_eq_false (by omega)
  have H := Aside0.mk h
  have hi : i64r (t.size : Int) := by unfold i64r; omega
  have EL := Aside0.mk (encI_len (t.size : Int) hi)
  clear h
  go_enter Try.func76, Try.ntmps76
  go_wp2_with fail
  refine (sint_ok (t.size : Int) hi (by omega) H.out).mono ?_
  rintro e w1 ⟨rfl, h1⟩
  obtain ⟨A, m, c, hm, h2⟩ := sink_open h1
  have H2 := Aside0.mk h2
  have k0 := h2.cell (i := 0) rfl
  have f0 := h2.unfrozen 0
  have H3 := Aside0.mk (h2.as (Q := row (Kd.int .u8) 5 (.slice A m c) (xs ++ encI t.size) * (blk p (.cells #[.slice A m c] 85) * F)) (by ac_rfl))
  have hm2 : m ≤ 140737488354010 := by rw [hm, List.length_append]; have := EL.out; omega
  have ML := Aside0.mk hm
  clear h1 h2 H hm
  go_wp2_with (at_builtin; refine Hw.append_text rfl (.tmp 17) (.tmp 18) 35 9 5 rfl Try.underlying35 Try.underlying9 Try.infoU8 _ (xs ++ encI t.size) t rfl rfl H3.out (m + t.size) (by rw [ML.out]) (by omega) ?_; intro A4 c4 w4 H4; have k4 := (H4.out.atB p).cell (i := 0) rfl; have f4 := (H4.out.atB p).unfrozen 0)
  go_end0
  exact ⟨rfl, sink_mk (((H4.out.atB p).set 0 (.slice A4 (m + t.size) c4)).as (Q := blk p (.cells #[.slice A4 (m + t.size) c4] 85) * (row (Kd.int .u8) 5 (.slice A4 (m + t.size) c4) (xs ++ encI t.size ++ numsOf t) * F)) (by
    show blk p (.cells #[.slice A4 (m + t.size) c4] 85) * _ = _
    ac_rfl))⟩
theorem stext_bad (t : ByteArray) (ht : 128 < t.size) :
    Calls Try.prog 76 #[.pointer (some ⟨p, 0, none⟩), .string t] w fun e w' => e = thrown 2 ∧ w = w' := by
  have d1 : decide ((128 : Int) < t.size) = true := decide_eq_true (by omega)
  have d2 : decide (128 < t.size) = true := decide_eq_true (by omega)
  go_enter Try.func76, Try.ntmps76
  go_wp2_with fail
  exact ⟨rfl, rfl, rfl⟩
theorem sflag_ok (b : Bool) (hl : xs.length ≤ 140737488354000) (h : Hw w0 w (sinkP p xs * F)) :
    Calls Try.prog 52 #[.pointer (some ⟨p, 0, none⟩), .bool b] w fun e w' => e = .returned (.tuple #[]) ∧ Hw w0 w' (sinkP p (xs ++ [bitN b]) * F) := by
  obtain ⟨A, m, c, hm, h⟩ := sink_open h
  have H := Aside0.mk (h.alloc (.cells #[.int .u8 (bitN b)] 5))
  have H1 := Aside0.mk (H.out.atR (Kd.int .u8) 5 (.slice A m c))
  have HC := Aside0.mk (C_blk (enc := Value.int .u8) (h1 := fun _ => rfl) (xs := [bitN b]) (by simp) H.out.blk_at.1)
  have k0 := h.cell (i := 0) rfl
  have ML := Aside0.mk hm
  have hm2 : m ≤ 140737488355000 := by omega
  clear h hm hl
  cases b
  all_goals
    go_enter Try.func52, Try.ntmps52
    go_wp2_with (at_builtin; refine Hw.append_int (k := .u8) rfl (.tmp 10) (.tmp 12) 35 5 1 rfl Try.underlying35 Try.infoU8 (by decide) _ xs [bitN _] _ 1 1 rfl rfl H1.out HC.out (by rw [← ML.out]; omega) (xs ++ [bitN _]) rfl (m + 1) (by simp [ML.out]) ?_; intro A4 c4 w4 H4; have k4 := (H4.out.atB p).cell (i := 0) rfl; have f4 := (H4.out.atB p).unfrozen 0)
    go_end0
    exact ⟨rfl, sink_mk ((((H4.out.dropB w.heap.size).atB p).set 0 (.slice A4 (m + 1) c4)).as (Q := blk p (.cells #[.slice A4 (m + 1) c4] 85) * (row (Kd.int .u8) 5 (.slice A4 (m + 1) c4) (xs ++ [bitN _]) * F)) (by
      show blk p (.cells #[.slice A4 (m + 1) c4] 85) * _ = _
      ac_rfl))⟩
set_option maxHeartbeats 800000 in
theorem stuple_ok (t : ByteArray × ByteArray × ByteArray) (ht : fitsT t) (hl : xs.length ≤ 140737488353000) (h : Hw w0 w (sinkP p xs * F)) :
    Calls Try.prog 57 #[.pointer (some ⟨p, 0, none⟩), .agg #[.string t.1, .string t.2.1, .string t.2.2]] w fun e w' => e = .returned (.tuple #[]) ∧ Hw w0 w' (sinkP p (xs ++ encT t) * F) := by
  obtain ⟨t1, t2, t3⟩ := t
  obtain ⟨h1, h2, h3⟩ := ht
  simp only at h1 h2 h3 ⊢
  have E1 := Aside0.mk (encI_len (t1.size : Int) (by unfold i64r; omega))
  have E2 := Aside0.mk (encI_len (t2.size : Int) (by unfold i64r; omega))
  have H1 := Aside0.mk (h.alloc (.cells #[.string t1, .string t2, .string t3] 81))
  have c0 := H1.out.cell (i := 0) rfl
  have L1 := Aside0.mk (show (xs ++ encI t1.size ++ numsOf t1).length ≤ 140737488353200 by simp only [List.length_append, numsOf_len]; have := E1.out; omega)
  have L2 := Aside0.mk (show (xs ++ encI t1.size ++ numsOf t1 ++ encI t2.size ++ numsOf t2).length ≤ 140737488353400 by simp only [List.length_append, numsOf_len]; have := E1.out; have := E2.out; omega)
  clear h
  go_enter Try.func57, Try.ntmps57
  go_wp2_with fail
  refine (stext_ok t1 h1 (by omega) (H1.out.at (sinkP p xs))).mono ?_
  rintro e w1 ⟨rfl, g1⟩
  have H2 := Aside0.mk (g1.atB w.heap.size)
  have c1 := H2.out.cell (i := 1) rfl
  clear g1 c0
  go_wp2_with fail
  refine (stext_ok t2 h2 (by have := L1.out; omega) (H2.out.at (sinkP p (xs ++ encI t1.size ++ numsOf t1)))).mono ?_
  rintro e w2 ⟨rfl, g2⟩
  have H3 := Aside0.mk (g2.atB w.heap.size)
  have c2 := H3.out.cell (i := 2) rfl
  clear g2 c1
  go_wp2_with fail
  refine (stext_ok t3 h3 (by have := L2.out; omega) (H3.out.at (sinkP p (xs ++ encI t1.size ++ numsOf t1 ++ encI t2.size ++ numsOf t2)))).mono ?_
  rintro e w3 ⟨rfl, g3⟩
  have H4 := Aside0.mk (g3.dropB w.heap.size)
  clear g3 c2
  go_wp2_with fail
  go_end0
  exact ⟨rfl, by unfold encT; simpa only [List.append_assoc] using H4.out⟩
set_option maxHeartbeats 800000 in
theorem stuple_bad (t : ByteArray × ByteArray × ByteArray) (ht : ¬ fitsT t) (hl : xs.length ≤ 140737488353000) (h : Hw w0 w (sinkP p xs * F)) :
    Calls Try.prog 57 #[.pointer (some ⟨p, 0, none⟩), .agg #[.string t.1, .string t.2.1, .string t.2.2]] w fun e w' => e = thrown 2 ∧ ∃ ys, Hw w0 w' (sinkP p ys * F) := by
  obtain ⟨t1, t2, t3⟩ := t
  unfold fitsT at ht
  simp only at ht ⊢
  have H1 := Aside0.mk (h.alloc (.cells #[.string t1, .string t2, .string t3] 81))
  have c0 := H1.out.cell (i := 0) rfl
  clear h
  go_enter Try.func57, Try.ntmps57
  go_wp2_with fail
  by_cases h1 : t1.size ≤ 128
  · have E1 := Aside0.mk (encI_len (t1.size : Int) (by unfold i64r; omega))
    have L1 := Aside0.mk (show (xs ++ encI t1.size ++ numsOf t1).length ≤ 140737488353200 by simp only [List.length_append, numsOf_len]; have := E1.out; omega)
    refine (stext_ok t1 h1 (by omega) (H1.out.at (sinkP p xs))).mono ?_
    rintro e w1 ⟨rfl, g1⟩
    have H2 := Aside0.mk (g1.atB w.heap.size)
    have c1 := H2.out.cell (i := 1) rfl
    clear g1 c0
    go_wp2_with fail
    by_cases h2 : t2.size ≤ 128
    · have E2 := Aside0.mk (encI_len (t2.size : Int) (by unfold i64r; omega))
      have L2 := Aside0.mk (show (xs ++ encI t1.size ++ numsOf t1 ++ encI t2.size ++ numsOf t2).length ≤ 140737488353400 by simp only [List.length_append, numsOf_len]; have := E1.out; have := E2.out; omega)
      refine (stext_ok t2 h2 (by have := L1.out; omega) (H2.out.at (sinkP p (xs ++ encI t1.size ++ numsOf t1)))).mono ?_
      rintro e w2 ⟨rfl, g2⟩
      have H3 := Aside0.mk (g2.atB w.heap.size)
      have c2 := H3.out.cell (i := 2) rfl
      clear g2 c1
      go_wp2_with fail
      refine (stext_bad t3 (by omega)).mono ?_
      rintro e w3 ⟨rfl, rfl⟩
      exact ⟨rfl, rfl, _, (H3.out.dropB w.heap.size)⟩
    · refine (stext_bad t2 (by omega)).mono ?_
      rintro e w3 ⟨rfl, rfl⟩
      exact ⟨rfl, rfl, _, (H2.out.dropB w.heap.size)⟩
  · refine (stext_bad t1 (by omega)).mono ?_
    rintro e w3 ⟨rfl, rfl⟩
    exact ⟨rfl, rfl, _, (H1.out.dropB w.heap.size)⟩
end
end Go.Proofs.Ytloiclalcepbeaa
