/- The document's disk: what its functions answer. -/
import Derived.Test.YtckdkbjobipniaaBA
import Derived.Test.YtckdkbjobipniaaProg
set_option linter.unusedVariables false
set_option linter.unusedSimpArgs false
namespace Go.Proofs.Ytckdkbjobipniaa
open Go.RowKit Go.Proofs.YtckdkbjobipniaaW.PrintWords

/-- A disk of the document's, as a value. -/
def refD (s : ByteArray) (dur room : Int) : Value := .agg #[.string s, .int .i64 dur, .int .i64 room]
theorem refWrong_bad (room : Int) (w : World) (hr : room < 0 ∨ 1048576 < room) :
    Calls Try.prog 19 #[.int .i64 room] w fun e w' => e = .returned (.int .i64 1) ∧ Drawn0 w w' := by
  rcases hr with h | h
  · have d1 : decide (room < 0) = true := by simpa using h
    go_enter Try.func19, Try.ntmps19
    go_wp2
    go_ret
    exact ⟨rfl, Drawn0.refl _⟩
  · have d1 : decide (room < 0) = false := by simp; omega
    have d2 : decide (1048576 < room) = true := by simpa using h
    go_enter Try.func19, Try.ntmps19
    go_wp2
    go_ret
    exact ⟨rfl, Drawn0.refl _⟩
theorem two_new (w : World) (o o' : Obj) : Below w.heap.size w ((w.alloc o).alloc o') := ((Below.refl _ _).alloc (Nat.le_refl _) _).alloc (by simp) _
/-- The result's own place, behind a call. -/
theorem ref_slot {w w1 : World} (o : Obj) {c0 c1 c2 : Value} {t : TypeId} (hb : Below ((w.alloc o).alloc (.cells #[c0, c1, c2] t)).heap.size ((w.alloc o).alloc (.cells #[c0, c1, c2] t)) w1) :
    Below w.heap.size w w1 ∧ w1.cell? ⟨w.heap.size + 1, 0, none⟩ = some c0 ∧ w1.cell? ⟨w.heap.size + 1, 1, none⟩ = some c1 ∧ w1.cell? ⟨w.heap.size + 1, 2, none⟩ = some c2 ∧
      w1.frozen? ⟨w.heap.size + 1, 0, none⟩ = false ∧ w1.frozen? ⟨w.heap.size + 1, 1, none⟩ = false ∧ w1.frozen? ⟨w.heap.size + 1, 2, none⟩ = false ∧ w.heap.size + 1 < w1.heap.size := by
  have h := (((Hw.start w).alloc o).alloc (.cells #[c0, c1, c2] t)).from_below hb
  simp only [World.size_alloc] at h
  exact ⟨h.below, h.cell (i := 0) rfl, h.cell (i := 1) rfl, h.cell (i := 2) rfl, h.unfrozen 0, h.unfrozen 1, h.unfrozen 2, h.lt⟩
set_option maxRecDepth 100000 in
theorem refAppend_ok (s t : ByteArray) (dur room : Int) (w : World) (h : (s.size : Int) + t.size ≤ room) (hr : room ≤ 1048576) :
    Calls Try.prog 29 #[refD s dur room, .string t] w fun e w' => e = .returned (.tuple #[refD (s ++ t) dur room, .int .i64 0]) ∧ Below w.heap.size w w' := by
  unfold refD
  have hs : s.size + t.size ≤ 1048576 := by omega
  go_enter Try.func29, Try.ntmps29
  go_wp2
  exact bodyPost_ret (v := .tuple #[.agg #[.string (s ++ t), .int .i64 dur, .int .i64 room], .int .i64 0]) (by simp [results, Try.results29, go_sem]) rfl ⟨rfl, two_new _ _ _⟩
set_option maxRecDepth 100000 in
theorem refAppend_full (s t : ByteArray) (dur room : Int) (w : World) (h : room < (s.size : Int) + t.size) (hs : s.size ≤ 1048576) (ht : t.size ≤ 140737488355328) :
    Calls Try.prog 29 #[refD s dur room, .string t] w fun e w' => e = .returned (.tuple #[refD s dur room, .int .i64 3]) ∧ Below w.heap.size w w' := by
  unfold refD
  go_enter Try.func29, Try.ntmps29
  go_wp2
  exact bodyPost_ret (v := .tuple #[.agg #[.string s, .int .i64 dur, .int .i64 room], .int .i64 3]) (by simp [results, Try.results29, go_sem]) rfl ⟨rfl, two_new _ _ _⟩
set_option maxRecDepth 100000 in
theorem refSync_ok (s : ByteArray) (dur room : Int) (w : World) (hs : s.size ≤ 1048576) :
    Calls Try.prog 24 #[refD s dur room] w fun e w' => e = .returned (refD s s.size room) ∧ Below w.heap.size w w' := by
  unfold refD
  go_enter Try.func24, Try.ntmps24
  go_wp2
  exact bodyPost_ret (v := .agg #[.string s, .int .i64 s.size, .int .i64 room]) (by simp [results, Try.results24, go_sem]) rfl ⟨rfl, two_new _ _ _⟩
set_option maxHeartbeats 1600000 in
set_option maxRecDepth 100000 in
theorem refTruncate_ok (s : ByteArray) (dur room size : Int) (w : World) (hs : s.size ≤ 1048576) (h : 0 ≤ size) (h2 : size ≤ s.size) (t : ByteArray) (ht : s.extract 0 size.toNat = t) :
    Calls Try.prog 86 #[refD s dur room, .int .i64 size] w fun e w' => e = .returned (.tuple #[refD t t.size room, .int .i64 0]) ∧ Below w.heap.size w w' := by
  unfold refD
  have d1 : decide (size < 0) = false := by simpa using h
  have d2 : decide ((s.size : Int) < size) = false := by simpa using h2
  have htz : t.size ≤ 1048576 := by rw [← ht, ByteArray.size_extract]; omega
  go_enter Try.func86, Try.ntmps86
  go_wp2_with fail
  refine (refSync_ok t dur room _ htz).mono ?_
  rintro e w1 ⟨rfl, hb⟩
  obtain ⟨B, j0, j1, j2, f0, f1, f2, hz⟩ := ref_slot (w := w) _ hb
  clear hb
  unfold refD
  go_wp2
  exact bodyPost_ret (v := .tuple #[.agg #[.string t, .int .i64 t.size, .int .i64 room], .int .i64 0]) (by simp [results, Try.results86, go_sem, j0, j1, j2, f0, f1, f2, hz]) rfl ⟨rfl, ((B.setCell (by simp) _).setCell (by simp) _).setCell (by simp) _⟩
end Go.Proofs.Ytckdkbjobipniaa
