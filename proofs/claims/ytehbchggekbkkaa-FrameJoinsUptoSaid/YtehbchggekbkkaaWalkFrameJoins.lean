/- FrameJoins' walk. -/
import Derived.Test.YtehbchggekbkkaaFrameAwake
import Derived.Test.YtehbchggekbkkaaFrameJ
import Derived.Test.YtehbchggekbkkaaFrameT
import Derived.Test.YtehbchggekbkkaaWGuard
set_option linter.unusedVariables false
set_option linter.unusedSimpArgs false
namespace Go.Proofs.Ytehbchggekbkkaa
open Go.RowKit Go.Proofs.YtehbchggekbkkaaW.PrintWords Go.Proofs.YtehbchggekbkkaaW.PrintLast
set_option maxHeartbeats 3200000 in
set_option maxRecDepth 100000 in
theorem frameJoins_ok (A B : Option Addr) (n m ca cb : Nat) (xs ys : List Int) (w : World) (hA : (Kd.int .u8).C w A n xs) (hca : n ≤ ca) (hB : (Kd.int .u8).C w B m ys) (hcb : m ≤ cb) (hn : n ≤ 1048576) (hm : m ≤ 1048576) (hx : isB xs) (hy : isB ys) :
    Calls Try.prog 13 #[.slice A n ca, .slice B m cb] w fun e w' => e = .returned (.bool true) ∧ Below w.heap.size w w' := by
  have LX := Aside0.mk hA.1
  have LY := Aside0.mk hB.1
  have HA := Aside0.mk hA
  have HB := Aside0.mk hB
  have IX := Aside0.mk hx
  have IY := Aside0.mk hy
  obtain ⟨X, hX⟩ : ∃ X, X = cutOf xs := ⟨_, rfl⟩
  obtain ⟨Y, hY⟩ : ∃ Y, Y = cutOf ys := ⟨_, rfl⟩
  obtain ⟨l1, k1, e1⟩ := X
  obtain ⟨l2, k2, e2⟩ := Y
  have QX := Aside0.mk hX
  have QY := Aside0.mk hY
  have hend := cutOf_end n xs (by rw [LX.out]; exact Nat.le_refl _) hx
  rw [← hX, LX.out] at hend
  have hend : (e1 = 0 ∧ k1 = n) ∨ (e1 ≠ 0 ∧ k1 < n) := hend
  have hend2 := cutOf_end m ys (by rw [LY.out]; exact Nat.le_refl _) hy
  rw [← hY, LY.out] at hend2
  have hk2 : k2 ≤ m := by
    have hend2 : (e2 = 0 ∧ k2 = m) ∨ (e2 ≠ 0 ∧ k2 < m) := hend2
    omega
  clear hA hB hx hy hX hY hend2
  go_enter Try.func13, Try.ntmps13
  go_wp2_with fail
  refine (fawake_ok (Hw.start w)).mono ?_
  rintro e w1 ⟨rfl, h1⟩
  have H1 := Aside0.mk h1
  clear h1
  go_wp2_with fail
  refine (fcut_ok A n ca xs (by omega) hca H1.out (Ent.of_old HA.out) IX.out).mono ?_
  rw [← QX.out]
  rintro e w2 ⟨A2, n2, c2, hs2, rfl, h2⟩
  have H2 := Aside0.mk (rowss_mk h2)
  clear h2 H1
  go_wp2_with fail
  refine (fcut_ok B m cb ys (by omega) hcb H2.out (Ent.of_old HB.out) IY.out).mono ?_
  rw [← QY.out]
  rintro e w3 ⟨A3, n3, c3, hs3, rfl, h3⟩
  have H3 := Aside0.mk (rowss_mk h3)
  clear h3 H2
  rcases hend with ⟨he0, rfl⟩ | ⟨hne, hlt⟩
  · subst he0
    have ha := (H3.out.alloc (.cells #[] 5)).row_empty (k := .u8)
    have H4 := Aside0.mk ha
    have C4 := Aside0.mk (Kd.C_below HA.out H4.out.below)
    clear ha
    go_wp2_with (first | (at_builtin; refine Hw.append_int (k := .u8) rfl (.tmp 35) (.tmp 36) 31 5 1 rfl Try.underlying31 Try.finfoU8 (by decide) _ [] xs A k1 ca rfl rfl H4.out C4.out (by simp; omega) xs rfl k1 LX.out ?_; intro A5 c5 w5 H5; have C5 := Aside0.mk (Kd.C_below HB.out H5.out.below)) |
      (at_builtin; refine Hw.append_int (k := .u8) rfl (.tmp 37) (.tmp 38) 31 5 1 rfl Try.underlying31 Try.finfoU8 (by decide) _ xs ys B m cb rfl rfl H5.out C5.out (by rw [LX.out]; omega) (xs ++ ys) rfl (k1 + m) (by rw [List.length_append, LX.out, LY.out]) ?_; intro A6 c6 w6 H6))
    clear H4 C4 H5 C5
    refine (fcut_ok A6 (k1 + m) c6 (xs ++ ys) (by omega) H6.out.row_C.2.1 H6.out (Ent.of_row (e := 5) (c := c6)) (fun x hx => (List.mem_append.1 hx).elim (IX.out x) (IY.out x))).mono ?_
    have hj := cutOf_join k1 xs ys (by rw [LX.out]; exact Nat.le_refl _) IX.out (by rw [← QX.out])
    rw [← QX.out, ← QY.out, LX.out] at hj
    rw [hj]
    clear hj
    rintro e w7 ⟨A7, n7, c7, hs7, rfl, h7⟩
    have H7 := Aside0.mk (rowss_mk h7)
    have N7 := (rowss_C H7.out).1
    have N2 := (rowss_C (H3.out.at (rowss (Kd.int .u8) 31 5 A2 n2 c2 l1))).1
    have N3 := (rowss_C H3.out).1
    obtain rfl : n7 = n2 + n3 := by rw [N7, N2, N3]; exact List.length_append
    have b2 := cutOf_count k1 xs (by rw [LX.out]; exact Nat.le_refl _) IX.out
    rw [← QX.out, LX.out] at b2
    have b3 := cutOf_count m ys (by rw [LY.out]; exact Nat.le_refl _) IY.out
    rw [← QY.out, LY.out] at b3
    have b2' : n2 * 8 ≤ k1 := by rw [N2]; exact b2
    have b3' : n3 * 8 ≤ m := by rw [N3]; exact b3
    have L2 := Aside0.mk N2
    have L3 := Aside0.mk N3
    clear b2 b3 h7 N7 N2 N3
    go_wp2_with fail
    refine (ftexts_ok A7 (n2 + n3) c7 (l1 ++ l2) (by omega) H7.out (Ent.of_rowss 31 c7)).mono ?_
    rintro e w8 ⟨A8, c8, rfl, h8⟩
    have H8 := Aside0.mk h8
    clear h8
    go_wp2_with fail
    refine (ftexts_ok A2 n2 c2 l1 (by omega) H8.out (Ent.of_rowss 31 c2)).mono ?_
    rintro e w9 ⟨A9, c9, rfl, h9⟩
    have H9 := Aside0.mk h9
    clear h9
    go_wp2_with fail
    refine (ftexts_ok A3 n3 c3 l2 (by omega) H9.out (Ent.of_rowss 31 c3)).mono ?_
    rintro e w10 ⟨A10, c10, rfl, h10⟩
    have C10 := Aside0.mk h10.row_C.2.2
    have H10 := Aside0.mk (h10.atR Kd.string 9 (.slice A9 n2 c9))
    clear h10
    go_wp2_with (at_builtin; refine gate_guard (by rfl) ?_; refine Hw.append_row Value.string ByteArray.empty (h1 := fun _ => rfl) rfl (.tmp 64) (.tmp 66) 22 9 (.string ⟨#[]⟩) 16 rfl Try.underlying22 Try.finfoStr rfl (by decide) _ (l1.map strOfNums) (l2.map strOfNums) A10 n3 c10 rfl rfl H10.out C10.out (by rw [List.length_map, ← L2.out]; omega) ?_; intro A11 n11 c11 w11 hn11 h11; obtain rfl : n11 = n2 + n3 := (by rw [hn11.out, List.length_append, List.length_map, List.length_map, ← L2.out, ← L3.out]); have H11 : Aside0 (Hw w w11 (row Kd.string 9 (.slice A11 (n2 + n3) c11) (l1.map strOfNums ++ l2.map strOfNums) * _)) := ⟨h11⟩; clear h11 hn11)
    refine (fsame_ok A8 A11 (n2 + n3) c8 c11 (l1.map strOfNums ++ l2.map strOfNums) ?_ H11.out.row_C.2.2).mono ?_
    · have h := (H11.out.right.atR Kd.string 9 (.slice A8 (n2 + n3) c8)).row_C.2.2
      rwa [List.map_append] at h
    rintro e w12 ⟨rfl, hd⟩
    have H12 := Aside0.mk (H11.out.drawn hd)
    clear hd
    go_wp2_with fail
    go_ret
    exact ⟨rfl, H12.out.below⟩
  · have d1 : decide ((k1 : Int) < n) = true := decide_eq_true (by omega)
    have d1' : decide (k1 < n) = true := decide_eq_true (by omega)
    have d2 : (e1 != 0) = true := by simpa using hne
    go_wp2_with fail
    go_ret
    exact ⟨rfl, H3.out.below⟩
theorem isB_of_wf3 {xs : List Int} (h : ∀ x ∈ xs, (Lit.int .u8 x).wf = true) : isB xs := by
  intro x hx
  have := h x hx
  simp [Lit.wf] at this
  first | omega | (simp [IntKind.min, IntKind.max, IntKind.bits, IntKind.signed] at this; omega)
theorem bulk_row (xs : List Int) : xs.length ≤ (xs.map fun _ => 1).sum + 1 := by
  have : (xs.map fun _ => 1).sum = xs.length := by
    induction xs with
    | nil => rfl
    | cons x xs ih => simp [ih]; omega
  omega
theorem frameJoinsUpto_walk (A : Option Addr) (ca : Nat) (xs : List Int) (B : Option Addr) (cb : Nat) (ys : List Int) (w : World) (hA : (Kd.int .u8).C w A xs.length xs) (hca : xs.length ≤ ca) (sa : xs.length * 1 ≤ 140737488351232 ∧ ∀ x ∈ xs, (Lit.int .u8 x).wf = true)
    (hB : (Kd.int .u8).C w B ys.length ys) (hcb : ys.length ≤ cb) (sb : ys.length * 1 ≤ 140737488351232 ∧ ∀ x ∈ ys, (Lit.int .u8 x).wf = true) (hU : (xs.map fun _ => 1).sum + 1 + ((ys.map fun _ => 1).sum + 1) ≤ 1048576) :
    Calls Try.prog 13 #[.slice A xs.length ca, .slice B ys.length cb] w fun e w' => e = .returned (.bool true) ∧ Below w.heap.size w w' := by
  have h1 := bulk_row xs
  have h2 := bulk_row ys
  exact frameJoins_ok A B _ _ ca cb xs ys w hA hca hB hcb (by omega) (by omega) (isB_of_wf3 sa.2) (isB_of_wf3 sb.2)
end Go.Proofs.Ytehbchggekbkkaa
