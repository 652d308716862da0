/- TokenReads' walk. -/
import Derived.Test.YtloiclalcepbeaaTokenX
set_option linter.unusedVariables false
set_option linter.unusedSimpArgs false
namespace Go.Proofs.Ytloiclalcepbeaa
open Go.RowKit Go.Proofs.YtloiclalcepbeaaW.PrintWords Go.Proofs.YtloiclalcepbeaaW.PrintLast
set_option maxHeartbeats 3200000 in
set_option maxRecDepth 100000 in
theorem tokenReads_ok (node rev : Int) (s : ByteArray) (w : World) :
    Calls Try.prog 3 #[.agg #[.int .i64 node, .int .i64 rev], .string s] w fun e w' => e = .returned (.bool true) ∧ Below w.heap.size w w' := by
  have H1 := Aside0.mk ((Hw.start w).alloc (.cells #[.int .i64 node, .int .i64 rev] 23))
  have P1 := Aside0.mk (fun W => tprint_ok node rev W)
  have P2 := Aside0.mk (fun W => rprint_ok node rev W)
  obtain ⟨t, ht⟩ : ∃ t, t = strOfNums (ttext node rev) := ⟨_, rfl⟩
  obtain ⟨c, hc⟩ : ∃ c, c = terr node rev := ⟨_, rfl⟩
  rw [← ht, ← hc] at P1 P2
  have P3 := Aside0.mk (fun W => tparse_ok s W)
  have P4 := Aside0.mk (fun W => rparse_ok s W)
  obtain ⟨⟨p, q, f⟩, hp⟩ : ∃ r, r = tparse (numsOf s) := ⟨_, rfl⟩
  rw [← hp] at P3 P4
  clear ht hc hp
  go_enter Try.func3, Try.ntmps3
  go_wp2_with fail
  refine (tawake_ok _).mono ?_
  rintro e w2 ⟨rfl, h2⟩
  have H2 := Aside0.mk (H1.out.from_below h2)
  have c0 := H2.out.cell (i := 0) (v := .int .i64 node) rfl
  have c1 := H2.out.cell (i := 1) (v := .int .i64 rev) rfl
  clear h2 H1
  go_wp2_with fail
  refine (P1.out w2).mono ?_
  rintro e w3 ⟨rfl, h3⟩
  have H3 := Aside0.mk (H2.out.from_below h3)
  have c0 := H3.out.cell (i := 0) (v := .int .i64 node) rfl
  have c1 := H3.out.cell (i := 1) (v := .int .i64 rev) rfl
  clear h3 H2 P1
  go_wp2_with fail
  refine (P2.out w3).mono ?_
  rintro e w4 ⟨rfl, h4⟩
  have H4 := Aside0.mk (H3.out.from_below h4)
  clear h4 H3 P2 c0 c1
  go_wp2_with fail
  refine (P3.out w4).mono ?_
  rintro e w5 ⟨rfl, h5⟩
  have H5 := Aside0.mk ((H4.out.from_below h5).alloc (.cells #[.int .i64 p, .int .i64 q] 23))
  have g0 := H5.out.cell (i := 0) (v := .int .i64 p) rfl
  have g1 := H5.out.cell (i := 1) (v := .int .i64 q) rfl
  clear h5 H4 P3
  go_wp2_with fail
  refine (P4.out _).mono ?_
  rintro e w6 ⟨rfl, rfl⟩
  go_wp2_with fail
  go_ret
  exact ⟨rfl, H5.out.below⟩
theorem tokenReads_walk (a0 b0 : Int) (s : ByteArray) (w : World) (_ : (Lit.int .i64 a0).wf = true) (_ : (Lit.int .i64 b0).wf = true) (_ : s.size ≤ 140737488351232) :
    Calls Try.prog 3 #[.agg #[.int .i64 a0, .int .i64 b0], .string s] w fun e w' => e = .returned (.bool true) ∧ Below w.heap.size w w' := tokenReads_ok a0 b0 s w
end Go.Proofs.Ytloiclalcepbeaa
