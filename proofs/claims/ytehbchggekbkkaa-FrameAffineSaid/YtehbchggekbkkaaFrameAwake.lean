/- The small bench of the frame's statements answers true. -/
import Derived.Test.YtehbchggekbkkaaFrameL
set_option linter.unusedVariables false
set_option linter.unusedSimpArgs false
namespace Go.Proofs.Ytehbchggekbkkaa
open Go.RowKit Go.Proofs.YtehbchggekbkkaaW.PrintWords Go.Proofs.YtehbchggekbkkaaW.PrintLast
theorem crc_digits : ((crc [49, 50, 51, 52, 53, 54, 55, 56, 57]).toNat : Int) = 3808858755 := by decide +kernel
theorem isB_abc : isB [97, 98, 99] := by
  intro x hx
  simp only [List.mem_cons, List.not_mem_nil, or_false] at hx
  rcases hx with rfl | rfl | rfl <;> decide
set_option maxHeartbeats 1600000 in
set_option maxRecDepth 100000 in
theorem fawake_ok {w0 w : World} {F : HP} (h : Hw w0 w F) :
    Calls Try.prog 23 #[] w fun e w' => e = .returned (.bool true) ∧ Hw w0 w' F := by
  have kc := conv_const (P := Try.prog) 31 5 Try.underlying31 Try.underlying5
  go_enter Try.func23, Try.ntmps23
  go_wp2_with fail
  have hA := h.alloc (.cells #[.int .u8 97, .int .u8 98, .int .u8 99] 5 (3, 4))
  refine (fseal_ok _ 3 3 [97, 98, 99] (by decide) (by decide) hA (Ent.of_blk w.heap.size [97, 98, 99] rfl 3 rfl (by decide))).mono ?_
  rintro e w1 ⟨A1, n1, c1, rfl, h1⟩
  obtain ⟨hn0, hc1, hC1⟩ := h1.row_C
  have hn1 : n1 = 11 := hn0
  clear hn0
  subst hn1
  have H1 := Aside0.mk h1
  clear h1 hA hC1 h
  go_wp2_with fail
  refine (fopen_ok A1 11 c1 (sealOf [97, 98, 99]) (by decide) hc1 H1.out (Ent.of_row (e := 5) (c := c1)) (sealOf_isB _ isB_abc)).mono ?_
  have ho := open_seal [97, 98, 99] [] isB_abc (by decide)
  rw [List.append_nil] at ho
  obtain ⟨o1, o2, o3⟩ := ho
  rw [o1, o2, o3]
  rintro e w2 ⟨A2, n2, c2, rfl, h2⟩
  have H2 := Aside0.mk h2
  clear h2 H1 o1 o2 o3 hc1
  go_wp2_with fail
  have H3 := Aside0.mk (((H2.out.alloc (.cells #[.int .u8 49, .int .u8 50, .int .u8 51, .int .u8 52] 5 (4, 5))).alloc (.cells #[.int .u8 53, .int .u8 54, .int .u8 55, .int .u8 56, .int .u8 57] 5 (5, 6))).alloc (.cells #[.slice (some ⟨w2.heap.size, 0, none⟩) 4 4, .slice none 0 0, .slice (some ⟨w2.heap.size + 1, 0, none⟩) 5 5] 31))
  simp only [World.size_alloc] at H3
  have HL := Aside0.mk (C_lit3 (d := Kd.int .u8) (e := 5) (x := [49, 50, 51, 52]) (y := []) (z := [53, 54, 55, 56, 57]) (n := 4) (m := 0) (p := 5) H3.out.blk_at.1 rfl (by decide) (C_blk (enc := Value.int .u8) (xs := [49, 50, 51, 52]) (by decide) (H3.out.atB w2.heap.size).blk_at.1) rfl (by decide) (Kd.C_nil _ _) rfl (by decide) (C_blk (enc := Value.int .u8) (xs := [53, 54, 55, 56, 57]) (by decide) (H3.out.atB (w2.heap.size + 1)).blk_at.1))
  refine (fsum_ok _ _ 3 3 _ HL.out).mono ?_
  rintro e w3 ⟨rfl, rfl⟩
  rw [show ((crc ([[49, 50, 51, 52], [], [53, 54, 55, 56, 57]] : List (List Int)).flatten).toNat : Int) = 3808858755 from crc_digits]
  have H4 := Aside0.mk (H3.out.atR (Kd.int .u8) 5 (.slice A2 n2 c2))
  have hs := H4.out.row_string Try.underlying31 Try.underlying5 Try.underlying9
  have hs' : strOfNums [97, 98, 99] = ⟨#[97, 98, 99]⟩ := rfl
  rw [hs'] at hs
  clear hs' HL H2 kc
  have H5 := Aside0.mk ((((H4.out.right.dropB (w2.heap.size + 1 + 1)).dropB (w2.heap.size + 1)).dropB w2.heap.size).dropR (Kd.int .u8) 5 (.slice A1 11 c1))
  clear H3 H4
  go_wp2_with fail
  go_ret
  exact ⟨rfl, H5.out.right⟩
end Go.Proofs.Ytehbchggekbkkaa
