/- The small bench of the disk's statements answers true. -/
import Derived.Test.YtacnogbdifgmeaaDiskB
import Derived.Test.YtacnogbdifgmeaaSepTwo
set_option linter.unusedVariables false
set_option linter.unusedSimpArgs false
namespace Go.Proofs.Ytacnogbdifgmeaa
open Go.RowKit Go.Proofs.YtacnogbdifgmeaaW.PrintWords

set_option maxHeartbeats 1600000 in
set_option maxRecDepth 100000 in
theorem awake_ok {w0 w : World} {F : HP} (h : Hw w0 w F) :
    Calls Try.prog 11 #[] w fun e w' => e = .returned (.bool true) ∧ Hw w0 w' F := by
  have hmk : ∀ W : World, (Instr.makeSlice 22 (.int .i64 7) (.int .i64 7)).run Try.prog W = .ok (.slice (some ⟨W.heap.size, 0, none⟩) 7 7) (W.alloc (.cells (madeCells #[.int .u8 0] 7) 5)) :=
    print_make (P := Try.prog) 22 5 .u8 1 Try.underlying22 Try.infoU8 (by decide) 7 (by decide)
  have kc := conv_const (P := Try.prog) 22 5 Try.underlying22 Try.underlying5
  go_enter Try.func11, Try.ntmps11
  go_wp2_with fail
  refine (new_ok 9 (by omega) (by omega) h).mono ?_
  rintro e w1 ⟨p, rfl, h1⟩
  have H1 := Aside0.mk h1
  clear h h1
  go_wp2_with fail
  have hA := ((H1.out.alloc (.cells #[.int .u8 97, .int .u8 98] 5 (2, 3))).alloc (.cells #[.int .u8 99] 5 (1, 2))).alloc (.cells #[.slice (some ⟨w1.heap.size, 0, none⟩) 2 2, .slice (some ⟨w1.heap.size + 1, 0, none⟩) 1 1] 22)
  simp only [World.size_alloc] at hA
  refine (append_ok p [] 0 9 [[97, 98], [99]] _ 2 (hA.as (Q := disk p [] 0 9 * (blk (w1.heap.size + 1 + 1) (.cells #[.slice (some ⟨w1.heap.size, 0, none⟩) 2 2, .slice (some ⟨w1.heap.size + 1, 0, none⟩) 1 1] 22) * (blk (w1.heap.size + 1) (.cells #[.int .u8 99] 5 (1, 2)) * (blk w1.heap.size (.cells #[.int .u8 97, .int .u8 98] 5 (2, 3)) * F)))) (by ac_rfl)) (by omega) (by omega) ?_ (by decide)).mono ?_
  · intro w' h'
    exact C_lit2 h'.blk_at.1 rfl (by decide) (C_blk (enc := Value.int .u8) (xs := [97, 98]) (by decide) h'.right.right.blk_at.1) rfl (by decide) (C_blk (enc := Value.int .u8) (xs := [99]) (by decide) h'.right.blk_at.1)
  rintro e w2 ⟨rfl, h2⟩
  have H2 := Aside0.mk (h2.as (Q := disk p [97, 98, 99] 0 9 * F * (blk (w1.heap.size + 1 + 1) (.cells #[.slice (some ⟨w1.heap.size, 0, none⟩) 2 2, .slice (some ⟨w1.heap.size + 1, 0, none⟩) 1 1] 22) * (blk (w1.heap.size + 1) (.cells #[.int .u8 99] 5 (1, 2)) * (blk w1.heap.size (.cells #[.int .u8 97, .int .u8 98] 5 (2, 3)))))) (by simp only [List.nil_append, List.flatten_cons, List.cons_append, List.flatten_nil, List.append_nil]; ac_rfl)).left
  clear h2 hA H1
  go_wp2_with fail
  have hA := (H2.out.alloc (.cells (madeCells #[.int .u8 0] 7) 5)).alloc (.cells #[.slice (some ⟨w2.heap.size, 0, none⟩) 7 7] 22)
  simp only [World.size_alloc] at hA
  refine (append_full p [97, 98, 99] 0 9 [[0, 0, 0, 0, 0, 0, 0]] _ 1 (hA.as (Q := disk p [97, 98, 99] 0 9 * (F * (blk (w2.heap.size + 1) (.cells #[.slice (some ⟨w2.heap.size, 0, none⟩) 7 7] 22) * blk w2.heap.size (.cells (madeCells #[.int .u8 0] 7) 5)))) (by ac_rfl)) (by omega) (by omega) ?_ (by decide) (by decide)).mono ?_
  · exact C_lit1 hA.blk_at.1 rfl (by decide) (C_blk (enc := Value.int .u8) (E := 5) (fz := (0, 0)) (xs := [0, 0, 0, 0, 0, 0, 0]) (by decide) (hA.right.blk_at.1.trans (by rw [madeCells_int]; rfl)))
  rintro e w3 ⟨rfl, h3⟩
  have H3 := Aside0.mk (h3.as (Q := disk p [97, 98, 99] 0 9 * F * (blk (w2.heap.size + 1) (.cells #[.slice (some ⟨w2.heap.size, 0, none⟩) 7 7] 22) * blk w2.heap.size (.cells (madeCells #[.int .u8 0] 7) 5))) (by ac_rfl)).left
  clear h3 hA H2
  go_wp2_with fail
  refine (crash_ok p [97, 98, 99] 0 9 2 H3.out (by omega) (by decide)).mono ?_
  rintro e w4 ⟨rfl, h4⟩
  have H4 := Aside0.mk (show Hw w0 w4 (disk p [97, 98] 2 9 * F) from h4)
  clear h4 H3
  go_wp2_with fail
  refine (bytes_ok p [97, 98] 2 9 (by decide) H4.out).mono ?_
  rintro e w5 ⟨A, c, rfl, h5⟩
  have hs : (convert 22 9 (.slice A 2 c)).run Try.prog w5 = .ok (.string ⟨#[97, 98]⟩) w5 := by
    obtain ⟨A', c', e1, _, hC⟩ := h5.row_reads
    injection e1 with e1 e2 e3
    subst e1
    exact Kd.C_string Try.underlying22 Try.underlying5 Try.underlying9 hC
  have H5 := Aside0.mk h5.right
  clear h5 H4
  go_wp2_with fail
  refine (size_ok p [97, 98] 2 9 H5.out).mono ?_
  rintro e w6 ⟨rfl, h6⟩
  have H6 := Aside0.mk (H5.out.drawn h6)
  clear h6 H5 hs
  go_wp2_with fail
  refine (durable_ok p [97, 98] 2 9 H6.out).mono ?_
  rintro e w7 ⟨rfl, h7⟩
  have H7 := Aside0.mk (H6.out.drawn h7)
  clear h7 H6
  go_wp2_with fail
  refine (left_ok p [97, 98] 2 9 H7.out (by omega) (by omega)).mono ?_
  rintro e w8 ⟨rfl, h8⟩
  have H8 := Aside0.mk (H7.out.drawn h8)
  clear h8 H7
  go_wp2_with fail
  go_ret
  exact ⟨rfl, H8.out.right⟩
end Go.Proofs.Ytacnogbdifgmeaa
