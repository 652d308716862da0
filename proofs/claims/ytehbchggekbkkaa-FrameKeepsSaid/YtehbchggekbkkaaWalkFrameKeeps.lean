/- FrameKeeps' walk. -/
import Derived.Test.YtehbchggekbkkaaFrameAwake
import Derived.Test.YtehbchggekbkkaaInc
set_option linter.unusedVariables false
set_option linter.unusedSimpArgs false
namespace Go.Proofs.Ytehbchggekbkkaa
open Go.RowKit Go.Proofs.YtehbchggekbkkaaW.PrintWords Go.Proofs.YtehbchggekbkkaaW.PrintLast
set_option maxHeartbeats 3200000 in
set_option maxRecDepth 100000 in
theorem frameKeeps_ok (A : Option Addr) (n ca : Nat) (xs : List Int) (w : World) (hA : (Kd.int .u8).C w A n xs) (hca : n ≤ ca) (hn : n ≤ 16384) (hb : isB xs) :
    Calls Try.prog 7 #[.slice A n ca] w fun e w' => e = .returned (.bool true) ∧ Below w.heap.size w w' := by
  have hl : xs.length = n := hA.1
  have HL := Aside0.mk hl
  have HA := Aside0.mk hA
  have HB := Aside0.mk hb
  obtain ⟨inf, hinf, hiz0, hiz1, hiz2⟩ := info_parts Try.finfoU8
  obtain ⟨s, hs⟩ : ∃ s, s = strOfNums xs := ⟨_, rfl⟩
  have S := Aside0.mk hs
  clear hA hl hb hiz0 hiz1 hiz2 hs
  go_enter Try.func7, Try.ntmps7
  go_wp2_with fail
  refine (fawake_ok (Hw.start w)).mono ?_
  rintro e w1 ⟨rfl, h1⟩
  have H1 := Aside0.mk ((h1.alloc (.cells #[] 5)).row_empty (k := .u8))
  have HC1 := Aside0.mk (Kd.C_below HA.out H1.out.below)
  clear h1
  go_wp2_with (first | (at_builtin; refine Hw.append_int (k := .u8) rfl (.tmp 17) (.tmp 18) 31 5 1 rfl Try.underlying31 Try.finfoU8 (by decide) _ [] xs A n ca rfl rfl H1.out HC1.out (by simp; omega) xs rfl n HL.out ?_; intro A2 c2 w2 H2; have H2b := Aside0.mk ((H2.out.alloc (.cells #[.int .u8 77] 5)).atR (Kd.int .u8) 5 (.slice A2 n c2)); have HC2 := Aside0.mk (C_blk (enc := Value.int .u8) (h1 := fun _ => rfl) (xs := [77]) (by decide) (H2.out.alloc (.cells #[.int .u8 77] 5)).blk_at.1)) |
    (at_builtin; refine Hw.append_int (k := .u8) rfl (.tmp 19) (.tmp 20) 31 5 1 rfl Try.underlying31 Try.finfoU8 (by decide) _ xs [77] _ 1 1 rfl rfl H2b.out HC2.out (by rw [HL.out]; omega) (xs ++ [77]) rfl (n + 1) (by simp [HL.out]) ?_; intro A3 c3 w3 H3; have hc3 := H3.out.row_C.2.1; obtain ⟨hcut3, _⟩ := sl_take (Kd.int .u8) 31 5 Try.underlying31 hinf A3 (n + 1) c3 (n : Int) n rfl (by omega) hc3))
  clear hcut3 H1 H2 H2b HC1 HC2
  refine (fseal_ok A3 n c3 xs hn (by omega) H3.out (Ent.of_take (e := 5) (n := n + 1) (c := c3) rfl HL.out)).mono ?_
  rintro e w4 ⟨A4, n4, c4, rfl, h4⟩
  have hn4 : n4 = n + 8 := by have := h4.row_C.1; rw [this, sealOf_len, HL.out, Nat.add_comm]
  subst hn4
  have H4 := Aside0.mk (h4.atR (Kd.int .u8) 5 (.slice A3 (n + 1) c3))
  have c1 : (convert 31 9 (.slice A3 n c3)).run Try.prog w4 = .ok (.string s) w4 := by rw [S.out]; exact Kd.C_string Try.underlying31 Try.underlying5 Try.underlying9 ((Ent.of_take (e := 5) (n := n + 1) (c := c3) rfl HL.out).use H4.out)
  have cp : ∀ W, Below w.heap.size w W → (convert 31 9 (.slice A n ca)).run Try.prog W = .ok (.string s) W := fun W hW => by rw [S.out]; exact Kd.C_string Try.underlying31 Try.underlying5 Try.underlying9 (Kd.C_below HA.out hW)
  have CP := Aside0.mk cp
  have c2' := CP.out w4 H4.out.below
  obtain ⟨s4, hs4⟩ : ∃ s4, s4 = strOfNums (sealOf xs) := ⟨_, rfl⟩
  have c4' : (convert 31 9 (.slice A4 (n + 8) c4)).run Try.prog w4 = .ok (.string s4) w4 := by rw [hs4]; exact h4.row_string Try.underlying31 Try.underlying5 Try.underlying9
  have S4 := Aside0.mk hs4
  obtain ⟨hcut4, _⟩ := sl_take (Kd.int .u8) 31 5 Try.underlying31 hinf A3 (n + 1) c3 ((n : Int) + 1) (n + 1) (by omega) (by omega) hc3
  obtain ⟨ad, rfl, hc77, hf77, _⟩ := H4.out.row_int_at n 77 (by rw [List.getElem?_append_right (by rw [HL.out]; omega), HL.out]; simp)
  clear cp h4 H3 hs4 hf77
  go_wp2_with fail
  clear c1 c2' c4' hcut4 hc77
  go_loopw [64, 7] (fun i _ wr => ∃ k : Nat, k ≤ n ∧ i = .int .i64 k ∧ Aside0 (Hw w wr (row (Kd.int .u8) 5 (.slice (some ad) (n + 1) c3) (incTo k xs ++ [77]) * (row (Kd.int .u8) 5 (.slice A4 (n + 8) c4) (sealOf xs) * (blk w2.heap.size (.cells #[.int .u8 77] 5) * HP.emp))))) (fun i _ _ => n - (intOf i).toNat)
  case atStart => exact ⟨0, Nat.zero_le _, rfl, ⟨by rw [incTo_zero]; exact H4.out⟩⟩
  case round =>
    obtain ⟨k, hk, rfl, HW⟩ := hrel
    clear H4
    by_cases hlt : k < n
    · obtain ⟨x, hx⟩ : ∃ x, xs[k]? = some x := ⟨_, List.getElem?_eq_getElem (by rw [HL.out]; exact hlt)⟩
      obtain ⟨ad', e1, hcx, hfx, hput⟩ := HW.out.row_int_at k x (incTo_at k xs [77] x hx)
      injection e1 with e1
      subst e1
      have X := Aside0.mk hx
      clear hx HW
      go_wp2
      go_roundw
      case rel => exact ⟨k + 1, by omega, by go_num, ⟨hput.out ((x + 1) % 256) _ (incTo_set k xs [77] x X.out)⟩⟩
      case measure => simp [intOf]; omega
    · have hk2 : k = n := by omega
      subst hk2
      have H5 := Aside0.mk (HW.out.atR (Kd.int .u8) 5 (.slice A4 (k + 8) c4))
      have hc4 := H5.out.row_C.2.1
      clear HW
      go_wp2_with fail
      refine (fopen_ok A4 (k + 8) c4 (sealOf xs) (by omega) hc4 H5.out (Ent.of_row (e := 5) (c := c4)) (sealOf_isB xs HB.out)).mono ?_
      obtain ⟨o1, o2, o3⟩ := open_seal0 xs HB.out (by rw [HL.out]; exact hn)
      rw [o1, o2, o3]
      clear o1 o2 o3
      rintro e w5 ⟨A5, n5, c5, rfl, h5⟩
      have hn5 : n5 = k := by have := h5.row_C.1; rw [this]; exact HL.out
      subst hn5
      have c1 : (convert 31 9 (.slice A4 (n5 + 8) c4)).run Try.prog w5 = .ok (.string s4) w5 := by rw [S4.out]; exact (h5.atR (Kd.int .u8) 5 (.slice A4 (n5 + 8) c4)).row_string Try.underlying31 Try.underlying5 Try.underlying9
      have c2' := CP.out w5 h5.below
      have c3' : (convert 31 9 (.slice A5 n5 c5)).run Try.prog w5 = .ok (.string s) w5 := by rw [S.out]; exact h5.row_string Try.underlying31 Try.underlying5 Try.underlying9
      have H6 := Aside0.mk h5
      clear h5 H5
      go_wp2_with fail
      clear c1 c2' c3'
      go_loopw [97, 11] (fun i _ wr => ∃ k : Nat, k ≤ n5 ∧ i = .int .i64 k ∧ Aside0 (Hw w wr (row (Kd.int .u8) 5 (.slice A5 n5 c5) (incTo k xs ++ []) * (row (Kd.int .u8) 5 (.slice A4 (n5 + 8) c4) (sealOf xs) * (row (Kd.int .u8) 5 (.slice (some ad) (n5 + 1) c3) (incTo n5 xs ++ [77]) * (blk w2.heap.size (.cells #[.int .u8 77] 5) * HP.emp)))))) (fun i _ _ => n5 - (intOf i).toNat)
      case atStart => exact ⟨0, Nat.zero_le _, rfl, ⟨by rw [incTo_zero, List.append_nil]; exact H6.out⟩⟩
      case round =>
        obtain ⟨k, hk, rfl, HW⟩ := hrel
        clear H6
        by_cases hlt : k < n5
        · obtain ⟨x, hx⟩ : ∃ x, xs[k]? = some x := ⟨_, List.getElem?_eq_getElem (by rw [HL.out]; exact hlt)⟩
          obtain ⟨ad', rfl, hcx, hfx, hput⟩ := HW.out.row_int_at k x (incTo_at k xs [] x hx)
          have X := Aside0.mk hx
          clear hx HW
          go_wp2
          go_roundw
          case rel => exact ⟨k + 1, by omega, by go_num, ⟨hput.out ((x + 1) % 256) _ (incTo_set k xs [] x X.out)⟩⟩
          case measure => simp [intOf]; omega
        · have hk2 : k = n5 := by omega
          subst hk2
          have H7 := Aside0.mk (HW.out.atR (Kd.int .u8) 5 (.slice A4 (k + 8) c4))
          clear HW
          go_wp2_with fail
          refine (fopen_ok A4 (k + 8) c4 (sealOf xs) (by omega) hc4 H7.out (Ent.of_row (e := 5) (c := c4)) (sealOf_isB xs HB.out)).mono ?_
          obtain ⟨o1, o2, o3⟩ := open_seal0 xs HB.out (by rw [HL.out]; exact hn)
          rw [o1, o2, o3]
          clear o1 o2 o3
          rintro e w6 ⟨A6, n6, c6, rfl, h6⟩
          have c2' := CP.out w6 h6.below
          have c3' : (convert 31 9 (.slice A6 n6 c6)).run Try.prog w6 = .ok (.string s) w6 := by rw [S.out]; exact h6.row_string Try.underlying31 Try.underlying5 Try.underlying9
          have H8 := Aside0.mk h6.below
          clear h6 H7
          go_wp2_with fail
          go_ret
          exact ⟨rfl, H8.out⟩
set_option maxHeartbeats 3200000 in
set_option maxRecDepth 100000 in
theorem frameKeeps_long (A : Option Addr) (n ca : Nat) (xs : List Int) (w : World) (hA : (Kd.int .u8).C w A n xs) (hca : n ≤ ca) (hm : n ≤ 140737488351232) (hn : 16384 < n) (hb : isB xs) :
    Calls Try.prog 7 #[.slice A n ca] w fun e w' => e = .returned (.bool true) ∧ Below w.heap.size w w' := by
  have hl : xs.length = n := hA.1
  have HL := Aside0.mk hl
  have HA := Aside0.mk hA
  have HB := Aside0.mk hb
  obtain ⟨inf, hinf, hiz0, hiz1, hiz2⟩ := info_parts Try.finfoU8
  obtain ⟨s, hs⟩ : ∃ s, s = strOfNums xs := ⟨_, rfl⟩
  have S := Aside0.mk hs
  clear hA hl hb hiz0 hiz1 hiz2 hs
  go_enter Try.func7, Try.ntmps7
  go_wp2_with fail
  refine (fawake_ok (Hw.start w)).mono ?_
  rintro e w1 ⟨rfl, h1⟩
  have H1 := Aside0.mk ((h1.alloc (.cells #[] 5)).row_empty (k := .u8))
  have HC1 := Aside0.mk (Kd.C_below HA.out H1.out.below)
  clear h1
  go_wp2_with (first | (at_builtin; refine Hw.append_int (k := .u8) rfl (.tmp 17) (.tmp 18) 31 5 1 rfl Try.underlying31 Try.finfoU8 (by decide) _ [] xs A n ca rfl rfl H1.out HC1.out (by simp; omega) xs rfl n HL.out ?_; intro A2 c2 w2 H2; have H2b := Aside0.mk ((H2.out.alloc (.cells #[.int .u8 77] 5)).atR (Kd.int .u8) 5 (.slice A2 n c2)); have HC2 := Aside0.mk (C_blk (enc := Value.int .u8) (h1 := fun _ => rfl) (xs := [77]) (by decide) (H2.out.alloc (.cells #[.int .u8 77] 5)).blk_at.1)) |
    (at_builtin; refine Hw.append_int (k := .u8) rfl (.tmp 19) (.tmp 20) 31 5 1 rfl Try.underlying31 Try.finfoU8 (by decide) _ xs [77] _ 1 1 rfl rfl H2b.out HC2.out (by rw [HL.out]; omega) (xs ++ [77]) rfl (n + 1) (by simp [HL.out]) ?_; intro A3 c3 w3 H3; have hc3 := H3.out.row_C.2.1; obtain ⟨hcut3, _⟩ := sl_take (Kd.int .u8) 31 5 Try.underlying31 hinf A3 (n + 1) c3 (n : Int) n rfl (by omega) hc3))
  clear hcut3 H1 H2 H2b HC1 HC2
  refine (fseal_long A3 n c3 hn).mono ?_
  rintro e w4 ⟨rfl, rfl⟩
  have c1 : (convert 31 9 (.slice A3 n c3)).run Try.prog w4 = .ok (.string s) w4 := by rw [S.out]; exact Kd.C_string Try.underlying31 Try.underlying5 Try.underlying9 ((Ent.of_take (e := 5) (n := n + 1) (c := c3) rfl HL.out).use H3.out)
  have c2' : (convert 31 9 (.slice A n ca)).run Try.prog w4 = .ok (.string s) w4 := by rw [S.out]; exact Kd.C_string Try.underlying31 Try.underlying5 Try.underlying9 (Kd.C_below HA.out H3.out.below)
  obtain ⟨hcut4, _⟩ := sl_take (Kd.int .u8) 31 5 Try.underlying31 hinf A3 (n + 1) c3 ((n : Int) + 1) (n + 1) (by omega) (by omega) hc3
  obtain ⟨ad, rfl, hc77, hf77, _⟩ := H3.out.row_int_at n 77 (by rw [List.getElem?_append_right (by rw [HL.out]; omega), HL.out]; simp)
  clear hf77
  go_wp2_with fail
  go_ret
  exact ⟨rfl, H3.out.below⟩
theorem isB_of_wf2 {xs : List Int} (h : ∀ x ∈ xs, (Lit.int .u8 x).wf = true) : isB xs := by
  intro x hx
  have := h x hx
  simp [Lit.wf] at this
  first | omega | (simp [IntKind.min, IntKind.max, IntKind.bits, IntKind.signed] at this; omega)
theorem frameKeeps_walk (A : Option Addr) (ca : Nat) (xs : List Int) (w : World) (hA : (Kd.int .u8).C w A xs.length xs) (hca : xs.length ≤ ca) (sa : xs.length * 1 ≤ 140737488351232 ∧ ∀ x ∈ xs, (Lit.int .u8 x).wf = true) :
    Calls Try.prog 7 #[.slice A xs.length ca] w fun e w' => e = .returned (.bool true) ∧ Below w.heap.size w w' := by
  by_cases h : xs.length ≤ 16384
  · exact frameKeeps_ok A _ ca xs w hA hca h (isB_of_wf2 sa.2)
  · exact frameKeeps_long A _ ca xs w hA hca (by have := sa.1; omega) (by omega) (isB_of_wf2 sa.2)
end Go.Proofs.Ytehbchggekbkkaa
