/- TokenBack's walk. -/
import Derived.Test.YtloiclalcepbeaaTokenG
set_option linter.unusedVariables false
set_option linter.unusedSimpArgs false
namespace Go.Proofs.Ytloiclalcepbeaa
open Go.RowKit Go.Proofs.YtloiclalcepbeaaW.PrintWords Go.Proofs.YtloiclalcepbeaaW.PrintLast
set_option maxHeartbeats 3200000 in
set_option maxRecDepth 100000 in
theorem tokenBack_ok (node rev : Int) (s : ByteArray) (w : World) :
    Calls Try.prog 4 #[.agg #[.int .i64 node, .int .i64 rev], .string s] w fun e w' => e = .returned (.bool true) ∧ Below w.heap.size w w' := by
  obtain ⟨t1, ht1⟩ : ∃ t1, t1 = strOfNums (ttext node rev) := ⟨_, rfl⟩
  obtain ⟨e1, he1⟩ : ∃ e1, e1 = terr node rev := ⟨_, rfl⟩
  obtain ⟨y0, hy0⟩ : ∃ y0, y0 = (tparse (numsOf t1)).1 := ⟨_, rfl⟩
  obtain ⟨y1, hy1⟩ : ∃ y1, y1 = (tparse (numsOf t1)).2.1 := ⟨_, rfl⟩
  obtain ⟨e2, he2⟩ : ∃ e2, e2 = (tparse (numsOf t1)).2.2 := ⟨_, rfl⟩
  have hcase : (e1 = 0 ∧ e2 = 0 ∧ y0 = node ∧ y1 = rev) ∨ (e1 = 1 ∧ t1 = ⟨#[]⟩) := by
    by_cases hf : tfits node rev
    · obtain ⟨a, b, rfl, rfl, ha, hb⟩ := tfits_nat hf
      obtain ⟨f1, f2⟩ := ttext_fits ha hb
      rw [f1] at ht1
      rw [f2] at he1
      rw [ht1, tparse_print a b ha hb] at hy0 hy1 he2
      exact .inl ⟨he1, he2, hy0, hy1⟩
    · refine .inr ⟨he1.trans (if_neg hf), ?_⟩
      rw [ht1, show ttext node rev = [] from if_neg hf]
      rfl
  have P1 := Aside0.mk (fun W => tprint_ok node rev W)
  rw [← ht1, ← he1] at P1
  have P2 := Aside0.mk (fun W => tparse_ok t1 W)
  rw [← hy0, ← hy1, ← he2] at P2
  obtain ⟨z0, hz0⟩ : ∃ z0, z0 = (tparse (numsOf s)).1 := ⟨_, rfl⟩
  obtain ⟨z1, hz1⟩ : ∃ z1, z1 = (tparse (numsOf s)).2.1 := ⟨_, rfl⟩
  obtain ⟨e3, he3⟩ : ∃ e3, e3 = (tparse (numsOf s)).2.2 := ⟨_, rfl⟩
  have P3 := Aside0.mk (fun W => tparse_ok s W)
  rw [← hz0, ← hz1, ← he3] at P3
  have hcase2 : (e3 ≠ 0 ∧ z0 = 0 ∧ z1 = 0) ∨ (e3 = 0 ∧ strOfNums (ttext z0 z1) = s ∧ terr z0 z1 = 0) := by
    by_cases h3 : e3 = 0
    · obtain ⟨a, b, ha, hb, ep, et⟩ := tparse_good (numsOf s) (numsOf_bytes s) (he3 ▸ h3)
      rw [ep] at hz0 hz1
      subst hz0 hz1
      obtain ⟨f1, f2⟩ := ttext_fits ha hb
      exact .inr ⟨h3, by rw [f1, et, strOf_numsOf], f2⟩
    · obtain ⟨k0, k1⟩ := tparse_zero (numsOf s) (he3 ▸ h3)
      exact .inl ⟨h3, hz0.trans k0, hz1.trans k1⟩
  have P4 := Aside0.mk (fun W => tprint_ok z0 z1 W)
  have C2 := Aside0.mk hcase2
  have C1 := Aside0.mk hcase
  have H1 := Aside0.mk ((Hw.start w).alloc (.cells #[.int .i64 node, .int .i64 rev] 23))
  clear ht1 he1 hy0 hy1 he2 hz0 hz1 he3 hcase hcase2
  go_enter Try.func4, Try.ntmps4
  go_wp2_with fail
  refine (tawake_ok _).mono ?_
  rintro e w2 ⟨rfl, h2⟩
  have H2 := Aside0.mk (H1.out.from_below h2)
  have c0 := H2.out.cell (i := 0) (v := .int .i64 node) rfl
  have c1 := H2.out.cell (i := 1) (v := .int .i64 rev) rfl
  clear h2 H1
  go_wp2_with fail
  refine (P1.out w2).mono ?_
  rintro e w3 ⟨rfl, h3⟩
  have H3 := Aside0.mk (H2.out.from_below h3)
  clear h3 H2 c0 c1 P1
  go_wp2_with fail
  refine (P2.out w3).mono ?_
  rintro e w4 ⟨rfl, h4⟩
  have H4 := Aside0.mk ((H3.out.from_below h4).alloc (.cells #[.int .i64 y0, .int .i64 y1] 23))
  have c0 := H4.out.cellAt w.heap.size 0 (v := .int .i64 node) rfl
  have c1 := H4.out.cellAt w.heap.size 1 (v := .int .i64 rev) rfl
  have d0 := H4.out.cell (i := 0) (v := .int .i64 y0) rfl
  have d1 := H4.out.cell (i := 1) (v := .int .i64 y1) rfl
  clear h4 H3 P2
  have C1' := C1.out
  rcases C1' with ⟨rfl, rfl, rfl, rfl⟩ | ⟨rfl, rfl⟩
  all_goals
    clear C1
    go_wp2_with fail
    refine (P3.out _).mono ?_
    rintro e w5 ⟨rfl, h5⟩
    have H5 := Aside0.mk ((H4.out.from_below h5).alloc (.cells #[.int .i64 z0, .int .i64 z1] 23))
    have g0 := H5.out.cell (i := 0) (v := .int .i64 z0) rfl
    have g1 := H5.out.cell (i := 1) (v := .int .i64 z1) rfl
    clear h5 H4 P3 c0 c1 d0 d1
    have C2' := C2.out
    rcases C2' with ⟨hne, rfl, rfl⟩ | ⟨rfl, hs, ht⟩
    · have q : (e3 != 0) = true := by simpa using hne
      clear C2 hne
      go_wp2_with fail
      go_ret
      exact ⟨rfl, H5.out.below⟩
    · rw [hs, ht] at P4
      clear hs ht C2
      go_wp2_with fail
      refine (P4.out _).mono ?_
      rintro e w6 ⟨rfl, h6⟩
      have H6 := Aside0.mk (H5.out.from_below h6)
      clear h6
      go_wp2_with fail
      go_ret
      exact ⟨rfl, H6.out.below⟩
theorem tokenBack_walk (a0 b0 : Int) (s : ByteArray) (w : World) (_ : (Lit.int .i64 a0).wf = true) (_ : (Lit.int .i64 b0).wf = true) (_ : s.size ≤ 140737488351232) :
    Calls Try.prog 4 #[.agg #[.int .i64 a0, .int .i64 b0], .string s] w fun e w' => e = .returned (.bool true) ∧ Below w.heap.size w w' := tokenBack_ok a0 b0 s w
end Go.Proofs.Ytloiclalcepbeaa
