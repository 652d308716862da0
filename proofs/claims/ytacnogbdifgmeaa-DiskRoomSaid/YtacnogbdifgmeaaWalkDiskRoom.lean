/- DiskRoom's walk. -/
import Derived.Test.YtacnogbdifgmeaaDiskOne
import Derived.Test.YtacnogbdifgmeaaWLast
set_option linter.unusedVariables false
set_option linter.unusedSimpArgs false
namespace Go.Proofs.Ytacnogbdifgmeaa
open Go.RowKit Go.Proofs.YtacnogbdifgmeaaW.PrintWords Go.Proofs.YtacnogbdifgmeaaW.PrintLast

set_option maxHeartbeats 3200000 in
set_option maxRecDepth 100000 in
theorem diskRoom_bad (room : Int) (A : Option Addr) (n ca : Nat) (w : World) (hr : room < 0 ∨ 1048576 < room) :
    Calls Try.prog 5 #[.int .i64 room, .slice A n ca] w fun e w' => e = .returned (.bool true) ∧ Below w.heap.size w w' := by
  go_enter Try.func5, Try.ntmps5
  go_wp2_with fail
  refine (awake_ok (Hw.start w)).mono ?_
  rintro e w1 ⟨rfl, h1⟩
  have H1 := Aside0.mk h1
  clear h1
  go_wp2_with fail
  refine (new_bad room hr).mono ?_
  rintro e w2 ⟨rfl, rfl⟩
  go_wp2_with fail
  go_ret
  exact ⟨rfl, H1.out.below⟩

set_option maxHeartbeats 3200000 in
set_option maxRecDepth 100000 in
theorem diskRoom_ok (room : Int) (A : Option Addr) (sizes : List Int) (n ca : Nat) (w : World) (hA : (Kd.int .i64).C w A n sizes) (hr : 0 ≤ room) (hr2 : room ≤ 1048576) :
    Calls Try.prog 5 #[.int .i64 room, .slice A n ca] w fun e w' => e = .returned (.bool true) ∧ Below w.heap.size w w' := by
  have hm := C_max' hA
  have HA := Aside0.mk hA
  clear hA
  go_enter Try.func5, Try.ntmps5
  go_wp2_with fail
  refine (awake_ok (Hw.start w)).mono ?_
  rintro e w1 ⟨rfl, h1⟩
  have H1 := Aside0.mk h1
  clear h1
  go_wp2_with fail
  refine (new_ok room hr hr2 H1.out).mono ?_
  rintro e w2 ⟨p, rfl, h2⟩
  have H2 := Aside0.mk h2
  clear h2 H1
  go_wp2_with fail
  go_loopw [24, 7, 9, 10] (fun i u _ _ wr => ∃ (k m : Nat), k ≤ n ∧ i = .int .i64 k ∧ u = .int .i64 m ∧ (m : Int) ≤ room ∧ ∃ bytes : List Int, Aside0 (bytes.length = m) ∧ Aside0 (Hw w wr (disk p bytes 0 room * HP.emp))) (fun i _ _ _ _ => n - (intOf i).toNat)
  case atStart => exact ⟨0, 0, Nat.zero_le _, rfl, rfl, by omega, [], ⟨rfl⟩, H2⟩
  case round =>
    obtain ⟨k, m, hk, rfl, rfl, hmr, bytes, HL, HW⟩ := hrel
    clear H2
    by_cases hlt : k < n
    · obtain ⟨ad, e1, hx⟩ := Kd.at_int (Kd.C_below HA.out HW.out.below) k (by omega) (by omega)
      subst e1
      obtain ⟨x, hxx⟩ : ∃ x, x = rd sizes k := ⟨_, rfl⟩
      rw [← hxx, Int.toNat_natCast] at hx
      clear hxx
      by_cases c1 : x < 0
      · go_wp2_with fail
        go_roundw
        case rel => exact ⟨k + 1, m, by omega, by go_num, rfl, hmr, bytes, HL, HW⟩
        case measure => simp [intOf]; omega
      · by_cases c2 : 2000 < x
        · go_wp2_with fail
          go_roundw
          case rel => exact ⟨k + 1, m, by omega, by go_num, rfl, hmr, bytes, HL, HW⟩
          case measure => simp [intOf]; omega
        · obtain ⟨j, rfl⟩ := Int.eq_ofNat_of_zero_le (show 0 ≤ x by omega)
          have hmk := print_make (P := Try.prog) 22 5 .u8 1 Try.underlying22 Try.infoU8 (by decide) j (by omega)
          have hj2 : j ≤ 2000 := by omega
          have hA := HW.out.alloc (.cells (madeCells #[.int .u8 0] j) 5)
          have HA2 := Aside0.mk (hA.as (Q := disk p bytes 0 room * (blk wr.heap.size (.cells (madeCells #[.int .u8 0] j) 5) * HP.emp)) (by ac_rfl))
          have hE : Aside0 (Ent w (blk wr.heap.size (.cells (madeCells #[.int .u8 0] j) 5) * HP.emp) (fun w => (Kd.int .u8).C w (some ⟨wr.heap.size, 0, none⟩) j (List.replicate j 0))) := ⟨fun w' h' => by
            have := C_blk (enc := Value.int .u8) (h1 := fun _ => rfl) (E := 5) (fz := (0, 0)) (g := wr.heap.size) (xs := List.replicate j (0 : Int)) (by simp; omega) (h'.blk_at.1.trans (by rw [madeCells_int]))
            rw [List.length_replicate] at this
            exact this⟩
          clear hA
          by_cases c3 : (m : Int) + j ≤ room
          · go_wp2_with fail
            refine (append1g_ok p bytes 0 room (List.replicate j 0) _ j j _ (by simp) HA2.out hr hr2 (by simp) (Nat.le_refl _) hE.out (by rw [HL.out]; exact c3)).mono ?_
            rintro e w3 ⟨rfl, h3⟩
            have H3 := Aside0.mk (h3.as (Q := disk p (bytes ++ List.replicate j 0) 0 room * HP.emp * (blk wr.heap.size (.cells (madeCells #[.int .u8 0] j) 5))) (by ac_rfl)).left
            clear h3 HW
            have hnl : ((bytes ++ List.replicate j (0 : Int)).length : Int) = m + j := by rw [List.length_append, List.length_replicate, HL.out]; omega
            have HN := Aside0.mk hnl
            clear hnl hE HA2 hmk
            go_wp2_with fail
            refine (size_k p _ 0 room (m + j) HN.out H3.out).mono ?_
            rintro e w4 ⟨rfl, h4⟩
            have H4 := Aside0.mk (H3.out.drawn h4)
            clear h4 H3
            have e15 : wrap64 (room - ((m : Int) + j)) = room - (m + j) := by unfold wrap64; omega
            go_wp2_with fail
            refine (left_k p _ 0 room (room - (m + j)) (by rw [HN.out]) hr hr2 H4.out).mono ?_
            rintro e w5 ⟨rfl, h5⟩
            have H5 := Aside0.mk (H4.out.drawn h5)
            clear h5 H4
            go_wp2_with fail
            refine (durable_ok p _ 0 room H5.out).mono ?_
            rintro e w6 ⟨rfl, h6⟩
            have H6 := Aside0.mk (H5.out.drawn h6)
            clear h6 H5
            go_wp2_with fail
            go_roundw
            case rel => exact ⟨k + 1, m + j, by omega, by go_num, by go_num, by omega, _, ⟨by have := HN.out; omega⟩, H6⟩
            case measure => simp [intOf]; omega
          · go_wp2_with fail
            refine (append1g_full p bytes 0 room (List.replicate j 0) _ j j _ (by simp) HA2.out hr hr2 (by simp) (Nat.le_refl _) hE.out (by omega) (by rw [HL.out]; omega)).mono ?_
            rintro e w3 ⟨rfl, h3⟩
            have H3 := Aside0.mk (h3.as (Q := disk p bytes 0 room * HP.emp * (blk wr.heap.size (.cells (madeCells #[.int .u8 0] j) 5))) (by ac_rfl)).left
            clear h3 HW hE HA2 hmk
            go_wp2_with fail
            refine (size_k p _ 0 room m (by rw [HL.out]) H3.out).mono ?_
            rintro e w4 ⟨rfl, h4⟩
            have H4 := Aside0.mk (H3.out.drawn h4)
            clear h4 H3
            go_wp2_with fail
            refine (left_k p _ 0 room (room - m) (by rw [HL.out]) hr hr2 H4.out).mono ?_
            rintro e w5 ⟨rfl, h5⟩
            have H5 := Aside0.mk (H4.out.drawn h5)
            clear h5 H4
            go_wp2_with fail
            refine (durable_ok p _ 0 room H5.out).mono ?_
            rintro e w6 ⟨rfl, h6⟩
            have H6 := Aside0.mk (H5.out.drawn h6)
            clear h6 H5
            go_wp2_with fail
            go_roundw
            case rel => exact ⟨k + 1, m, by omega, by go_num, rfl, by omega, _, HL, H6⟩
            case measure => simp [intOf]; omega
    · go_wp2_with fail
      go_ret
      exact ⟨rfl, HW.out.below⟩
theorem diskRoom_walk (room : Int) (A : Option Addr) (ca : Nat) (sizes : List Int) (w : World) (_ : (Lit.int .i64 room).wf = true) (hA : (Kd.int .i64).C w A sizes.length sizes) (hca : sizes.length ≤ ca) (sa : sizes.length * 8 ≤ 140737488351232 ∧ ∀ x ∈ sizes, (Lit.int .i64 x).wf = true) :
    Calls Try.prog 5 #[.int .i64 room, .slice A sizes.length ca] w fun e w' => e = .returned (.bool true) ∧ Below w.heap.size w w' := by
  by_cases h : room < 0 ∨ 1048576 < room
  · exact diskRoom_bad room A _ ca w h
  · exact diskRoom_ok room A sizes _ ca w hA (by omega) (by omega)
end Go.Proofs.Ytacnogbdifgmeaa
