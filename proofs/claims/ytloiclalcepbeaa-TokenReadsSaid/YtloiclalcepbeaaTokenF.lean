/- Tokens: awake. -/
import Derived.Test.YtloiclalcepbeaaTokenE
set_option linter.unusedVariables false
set_option linter.unusedSimpArgs false
namespace Go.Proofs.Ytloiclalcepbeaa
open Go.RowKit Go.Proofs.YtloiclalcepbeaaW.PrintWords Go.Proofs.YtloiclalcepbeaaW.PrintLast
theorem low31_31 : low31 31 = [0, 1] := by
  rw [low31_pos 31 (by decide), low31_pos (31 / 31) (by decide)]
  show [0, 1] ++ low31 0 = _
  rw [low31_zero]; rfl
theorem tdigits_2_31 : tdigits 2 31 = [2, 1, 0, 30] := by
  unfold tdigits tbody
  rw [low31_31]
  decide +kernel
theorem text_2_31 : (tdigits 2 31).map sgn = [50, 49, 48, 120] := by rw [tdigits_2_31]; decide +kernel
theorem tparse_210 : tparse (numsOf (strOfNums [50, 49, 48, 120])) = (2, 31, 0) := by decide +kernel
set_option maxHeartbeats 1600000 in
set_option maxRecDepth 100000 in
theorem tawake_ok (w : World) : Calls Try.prog 15 #[] w fun e w' => e = .returned (.bool true) ∧ Below w.heap.size w w' := by
  obtain ⟨s, hs⟩ : ∃ s, s = strOfNums [50, 49, 48, 120] := ⟨_, rfl⟩
  have hsz : s.size = 4 := by rw [hs, tx_size]; rfl
  have hsl : ∀ W : World, (Instr.slice 9 (.string s) none (some (.int .i64 3)) none).run Try.prog W = .ok (.string ⟨#[50, 49, 48]⟩) W := fun W => by
    rw [hs, tx_slice_to 9 Try.underlying9 [50, 49, 48, 120] 3 3 rfl (by decide) W]
    congr 2
  have HP1 := fun w => tprint_good 2 31 w (by decide) (by decide)
  rw [text_2_31, ← hs] at HP1
  have HP2 := fun w => tparse_ok s w
  rw [hs, tparse_210, ← hs] at HP2
  have P1 := Aside0.mk HP1
  have P2 := Aside0.mk HP2
  clear HP1 HP2 hs
  go_enter Try.func15, Try.ntmps15
  go_wp2_with fail
  refine (P1.out w).mono ?_
  rintro e w1 ⟨rfl, h1⟩
  have B1 := Aside0.mk h1
  clear h1
  go_wp2_with fail
  refine (P2.out w1).mono ?_
  rintro e w2 ⟨rfl, h2⟩
  have H2 := Aside0.mk (((Hw.start w).from_below (w1 := w2) (B1.out.trans (h2.mono B1.out.size))).alloc (.cells #[.int .i64 2, .int .i64 31] 23))
  have c0 := H2.out.cell (i := 0) (v := .int .i64 2) rfl
  have c1 := H2.out.cell (i := 1) (v := .int .i64 31) rfl
  clear h2
  go_wp2_with fail
  go_ret
  exact ⟨rfl, H2.out.below⟩
end Go.Proofs.Ytloiclalcepbeaa
