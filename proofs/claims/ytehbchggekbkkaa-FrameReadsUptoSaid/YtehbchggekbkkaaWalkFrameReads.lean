/- FrameReads' walk. -/
import Derived.Test.YtehbchggekbkkaaFrameAwake
import Derived.Test.YtehbchggekbkkaaFrameJ
import Derived.Test.YtehbchggekbkkaaRefFrameB
set_option linter.unusedVariables false
set_option linter.unusedSimpArgs false
namespace Go.Proofs.Ytehbchggekbkkaa
open Go.RowKit Go.Proofs.YtehbchggekbkkaaW.PrintWords Go.Proofs.YtehbchggekbkkaaW.PrintLast
set_option maxHeartbeats 3200000 in
set_option maxRecDepth 100000 in
theorem frameReads_ok (A B : Option Addr) (n m ca cb : Nat) (xs ys : List Int) (w : World) (hA : (Kd.int .u8).C w A n xs) (hca : n ≤ ca) (hB : (Kd.int .u8).C w B m ys) (hcb : m ≤ cb) (hn : n ≤ 1048576) (hm : m ≤ 1048576) (hx : isB xs) (hy : isB ys) :
    Calls Try.prog 11 #[.slice A n ca, .slice B m cb] w fun e w' => e = .returned (.bool true) ∧ Below w.heap.size w w' := by
  have LX := Aside0.mk hA.1
  have LY := Aside0.mk hB.1
  have HA := Aside0.mk hA
  have HB := Aside0.mk hB
  have IX := Aside0.mk hx
  have IY := Aside0.mk hy
  obtain ⟨s, hs⟩ : ∃ s, s = strOfNums xs := ⟨_, rfl⟩
  obtain ⟨t, ht⟩ : ∃ t, t = strOfNums ys := ⟨_, rfl⟩
  have S := Aside0.mk hs
  have T := Aside0.mk ht
  have CS := Aside0.mk (show ∀ W, Below w.heap.size w W → (convert 31 9 (.slice A n ca)).run Try.prog W = .ok (.string s) W from fun W hW => by rw [hs]; exact Kd.C_string Try.underlying31 Try.underlying5 Try.underlying9 (Kd.C_below hA hW))
  have CT := Aside0.mk (show ∀ W, Below w.heap.size w W → (convert 31 9 (.slice B m cb)).run Try.prog W = .ok (.string t) W from fun W hW => by rw [ht]; exact Kd.C_string Try.underlying31 Try.underlying5 Try.underlying9 (Kd.C_below hB hW))
  obtain ⟨Y, hY⟩ : ∃ Y, Y = cutOf ys := ⟨_, rfl⟩
  obtain ⟨l2, k2, e2⟩ := Y
  have QY := Aside0.mk hY
  obtain ⟨ot, hot⟩ : ∃ ot, ot = strOfNums (openTxt ys) := ⟨_, rfl⟩
  obtain ⟨oe, hoe⟩ : ∃ oe, oe = openEnd ys := ⟨_, rfl⟩
  obtain ⟨oc, hoc⟩ : ∃ oc, oc = openErr ys := ⟨_, rfl⟩
  have OT := Aside0.mk hot
  have OE := Aside0.mk hoe
  have OC := Aside0.mk hoc
  have b3 := cutOf_count m ys (by rw [LY.out]; exact Nat.le_refl _) hy
  rw [← hY, LY.out] at b3
  have B3 := Aside0.mk b3
  clear hA hB hx hy hs ht hY hot hoe hoc b3
  go_enter Try.func11, Try.ntmps11
  go_wp2_with fail
  refine (fawake_ok (Hw.start w)).mono ?_
  rintro e w1 ⟨rfl, h1⟩
  have H1 := Aside0.mk h1
  clear h1
  go_wp2_with fail
  by_cases hfit : n ≤ 16384
  · refine (fseal_ok A n ca xs hfit hca H1.out (Ent.of_old HA.out)).mono ?_
    rintro e w2 ⟨A2, n2, c2, rfl, h2⟩
    have H2 := Aside0.mk h2
    have cs := CS.out w2 h2.below
    clear h2 H1
    go_wp2_with fail
    refine (rseal_ok xs n LX.out hfit IX.out s S.out H2.out).mono ?_
    obtain ⟨v, hv⟩ : ∃ v, v = strOfNums (sealOf xs) := ⟨_, rfl⟩
    rw [← hv]
    rintro e w3 ⟨rfl, h3⟩
    have cv : (convert 31 9 (.slice A2 n2 c2)).run Try.prog w3 = .ok (.string v) w3 := by rw [hv]; exact h3.row_string Try.underlying31 Try.underlying5 Try.underlying9
    have H3 := Aside0.mk h3.right
    clear h3 H2 hv cs
    go_wp2_with fail
    refine (fopen_ok B m cb ys (by omega) hcb H3.out (Ent.of_old HB.out) IY.out).mono ?_
    rw [← OE.out, ← OC.out]
    rintro e w4 ⟨A4, n4, c4, rfl, h4⟩
    have H4 := Aside0.mk h4
    have ct := CT.out w4 h4.below
    clear h4 H3 cv
    go_wp2_with fail
    refine (ropen_ok ys m LY.out (by omega) IY.out t T.out H4.out).mono ?_
    rw [← OT.out, ← OE.out, ← OC.out]
    rintro e w5 ⟨rfl, h5⟩
    have H5 := Aside0.mk h5
    clear h5 H4 ct
    go_wp2_with fail
    refine (fcut_ok B m cb ys (by omega) hcb H5.out (Ent.of_old HB.out) IY.out).mono ?_
    rw [← QY.out]
    rintro e w6 ⟨A6, n6, c6, hs6, rfl, h6⟩
    have H6 := Aside0.mk (rowss_mk h6)
    have ct := CT.out w6 h6.below
    have hn6 : n6 = l2.length := (rowss_C H6.out).1
    have N6 := Aside0.mk hn6
    have hb6 : n6 ≤ 1048576 := by have : l2.length * 8 ≤ m := B3.out; omega
    clear h6 H5 hn6
    go_wp2_with fail
    refine (rcut_ok ys m LY.out (by omega) IY.out t T.out H6.out).mono ?_
    rw [← QY.out]
    rintro e w7 ⟨A7, n7, c7, rfl, h7⟩
    have hn7 : n7 = n6 := by have h := h7.row_C.1; rw [List.length_map] at h; rw [h]; exact N6.out.symm
    subst hn7
    have H7 := Aside0.mk h7
    have cv : (convert 31 9 (.slice A4 n4 c4)).run Try.prog w7 = .ok (.string ot) w7 := by rw [OT.out]; exact (h7.atR (Kd.int .u8) 5 (.slice A4 n4 c4)).row_string Try.underlying31 Try.underlying5 Try.underlying9
    clear h7 H6 ct
    go_wp2_with fail
    refine (ftexts_ok A6 n7 c6 l2 (by omega) H7.out (Ent.of_rowss 31 c6)).mono ?_
    rintro e w8 ⟨A8, c8, rfl, h8⟩
    have C8 := Aside0.mk h8.row_C.2.2
    have C7 := Aside0.mk (h8.atR Kd.string 9 (.slice A7 n7 c7)).row_C.2.2
    have H8 := Aside0.mk h8
    clear h8 H7 cv
    go_wp2_with fail
    refine (fsame_ok A8 A7 n7 c8 c7 (l2.map strOfNums) C8.out C7.out).mono ?_
    rintro e w9 ⟨rfl, hd⟩
    have H9 := Aside0.mk (H8.out.drawn hd)
    clear hd
    go_wp2_with fail
    go_ret
    exact ⟨rfl, H9.out.below⟩
  · refine (fseal_long A n ca (by omega)).mono ?_
    rintro e w2 ⟨rfl, rfl⟩
    have cs := CS.out w2 H1.out.below
    have hsz : 16384 < s.size := by rw [S.out, tx_size, LX.out]; omega
    have HSZ := Aside0.mk hsz
    clear hsz
    go_wp2_with fail
    refine (rseal_long s HSZ.out).mono ?_
    rintro e w3 ⟨rfl, rfl⟩
    have H3 := H1
    have cv : (convert 31 9 (.slice none 0 0)).run Try.prog w3 = .ok (.string ⟨#[]⟩) w3 := (H3.out.row_nil (Kd.int .u8) 5).row_string Try.underlying31 Try.underlying5 Try.underlying9
    clear H1 cs
    go_wp2_with fail
    refine (fopen_ok B m cb ys (by omega) hcb H3.out (Ent.of_old HB.out) IY.out).mono ?_
    rw [← OE.out, ← OC.out]
    rintro e w4 ⟨A4, n4, c4, rfl, h4⟩
    have H4 := Aside0.mk h4
    have ct := CT.out w4 h4.below
    clear h4 H3 cv
    go_wp2_with fail
    refine (ropen_ok ys m LY.out (by omega) IY.out t T.out H4.out).mono ?_
    rw [← OT.out, ← OE.out, ← OC.out]
    rintro e w5 ⟨rfl, h5⟩
    have H5 := Aside0.mk h5
    clear h5 H4 ct
    go_wp2_with fail
    refine (fcut_ok B m cb ys (by omega) hcb H5.out (Ent.of_old HB.out) IY.out).mono ?_
    rw [← QY.out]
    rintro e w6 ⟨A6, n6, c6, hs6, rfl, h6⟩
    have H6 := Aside0.mk (rowss_mk h6)
    have ct := CT.out w6 h6.below
    have hn6 : n6 = l2.length := (rowss_C H6.out).1
    have N6 := Aside0.mk hn6
    have hb6 : n6 ≤ 1048576 := by have : l2.length * 8 ≤ m := B3.out; omega
    clear h6 H5 hn6
    go_wp2_with fail
    refine (rcut_ok ys m LY.out (by omega) IY.out t T.out H6.out).mono ?_
    rw [← QY.out]
    rintro e w7 ⟨A7, n7, c7, rfl, h7⟩
    have hn7 : n7 = n6 := by have h := h7.row_C.1; rw [List.length_map] at h; rw [h]; exact N6.out.symm
    subst hn7
    have H7 := Aside0.mk h7
    have cv : (convert 31 9 (.slice A4 n4 c4)).run Try.prog w7 = .ok (.string ot) w7 := by rw [OT.out]; exact (h7.atR (Kd.int .u8) 5 (.slice A4 n4 c4)).row_string Try.underlying31 Try.underlying5 Try.underlying9
    clear h7 H6 ct
    go_wp2_with fail
    refine (ftexts_ok A6 n7 c6 l2 (by omega) H7.out (Ent.of_rowss 31 c6)).mono ?_
    rintro e w8 ⟨A8, c8, rfl, h8⟩
    have C8 := Aside0.mk h8.row_C.2.2
    have C7 := Aside0.mk (h8.atR Kd.string 9 (.slice A7 n7 c7)).row_C.2.2
    have H8 := Aside0.mk h8
    clear h8 H7 cv
    go_wp2_with fail
    refine (fsame_ok A8 A7 n7 c8 c7 (l2.map strOfNums) C8.out C7.out).mono ?_
    rintro e w9 ⟨rfl, hd⟩
    have H9 := Aside0.mk (H8.out.drawn hd)
    clear hd
    go_wp2_with fail
    go_ret
    exact ⟨rfl, H9.out.below⟩
theorem isB_of_wf6 {xs : List Int} (h : ∀ x ∈ xs, (Lit.int .u8 x).wf = true) : isB xs := by
  intro x hx
  have := h x hx
  simp [Lit.wf] at this
  first | omega | (simp [IntKind.min, IntKind.max, IntKind.bits, IntKind.signed] at this; omega)
theorem bulk_row2 (xs : List Int) : xs.length ≤ (xs.map fun _ => 1).sum + 1 := by
  have : (xs.map fun _ => 1).sum = xs.length := by
    induction xs with
    | nil => rfl
    | cons x xs ih => simp [ih]; omega
  omega
theorem frameReadsUpto_walk (A : Option Addr) (ca : Nat) (xs : List Int) (B : Option Addr) (cb : Nat) (ys : List Int) (w : World) (hA : (Kd.int .u8).C w A xs.length xs) (hca : xs.length ≤ ca) (sa : xs.length * 1 ≤ 140737488351232 ∧ ∀ x ∈ xs, (Lit.int .u8 x).wf = true)
    (hB : (Kd.int .u8).C w B ys.length ys) (hcb : ys.length ≤ cb) (sb : ys.length * 1 ≤ 140737488351232 ∧ ∀ x ∈ ys, (Lit.int .u8 x).wf = true) (hU : (xs.map fun _ => 1).sum + 1 + ((ys.map fun _ => 1).sum + 1) ≤ 1048576) :
    Calls Try.prog 11 #[.slice A xs.length ca, .slice B ys.length cb] w fun e w' => e = .returned (.bool true) ∧ Below w.heap.size w w' := by
  have h1 := bulk_row2 xs
  have h2 := bulk_row2 ys
  exact frameReads_ok A B _ _ ca cb xs ys w hA hca hB hcb (by omega) (by omega) (isB_of_wf6 sa.2) (isB_of_wf6 sb.2)
end Go.Proofs.Ytehbchggekbkkaa
