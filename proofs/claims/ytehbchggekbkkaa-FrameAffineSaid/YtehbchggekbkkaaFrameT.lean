/- The frame's laws' helpers: texts, same. -/
import Derived.Test.YtehbchggekbkkaaFrameD
set_option linter.unusedVariables false
set_option linter.unusedSimpArgs false
namespace Go.Proofs.Ytehbchggekbkkaa
open Go.RowKit Go.Proofs.YtehbchggekbkkaaW.PrintWords Go.Proofs.YtehbchggekbkkaaW.PrintLast
section
variable {w0 w : World} {F : HP}
theorem Try.finfoStr : (Try.prog.info? 9).map (fun i => (i.zero, i.size, i.bytes)) = some (some (.string ⟨#[]⟩), 1, 16) := by kernel_rfl
set_option maxHeartbeats 1600000 in
set_option maxRecDepth 100000 in
theorem ftexts_ok (A : Option Addr) (n c : Nat) (ls : List (List Int)) (hm : n ≤ 4194304) (h : Hw w0 w F) (hE : Ent w0 F (fun w => (Kd.slice 5 (Kd.int .u8)).C w A n ls)) :
    Calls Try.prog 34 #[.slice A n c] w fun e w' => ∃ A' c', e = .returned (.slice A' n c') ∧ Hw w0 w' (row Kd.string 9 (.slice A' n c') (ls.map strOfNums) * F) := by
  have H := Aside0.mk h
  have HE := Aside0.mk hE
  have HL := Aside0.mk (hE w h).1
  clear h hE
  go_enter Try.func34, Try.ntmps34
  go_wp2_with fail
  go_loopw [3, 8, 5] (fun v i _ wr => ∃ (k : Nat) (A1 : Option Addr) (c1 : Nat), k ≤ n ∧ i = .int .i64 k ∧ v = .slice A1 k c1 ∧ Aside0 (Hw w0 wr (row Kd.string 9 (.slice A1 k c1) ((ls.take k).map strOfNums) * F))) (fun _ i _ _ => n - (intOf i).toNat)
  case atStart => exact ⟨0, none, 0, Nat.zero_le _, rfl, rfl, ⟨H.out.row_nil Kd.string 9⟩⟩
  case round =>
    obtain ⟨k, A1, c1, hk, rfl, rfl, HW⟩ := hrel
    clear H
    by_cases hlt : k < n
    · obtain ⟨ad, A', c', x, rfl, hcell, hxc, hx, hxC⟩ := C_row_at (HE.out.use HW.out.right) k hlt
      obtain ⟨s, hs⟩ : ∃ s, s = strOfNums x := ⟨_, rfl⟩
      have hcx : (convert 31 9 (.slice A' x.length c')).run Try.prog wr = .ok (.string s) wr := by rw [hs]; exact Kd.C_string Try.underlying31 Try.underlying5 Try.underlying9 hxC.out
      have TS := Aside0.mk (show (ls.take k).map strOfNums ++ [s] = (ls.take (k + 1)).map strOfNums by rw [take_snoc_of hx.out, List.map_append, hs]; rfl)
      clear hs
      go_wp2_with (at_builtin; refine Hw.append_str rfl (.tmp 12) (.tmp 15) 22 9 rfl Try.underlying22 Try.finfoStr A1 k c1 _ s rfl rfl HW.out (by omega) _ TS.out ?_; intro A4 c4 w4 H4)
      go_roundw
      case rel => exact ⟨k + 1, A4, c4, by omega, by go_num, rfl, H4⟩
      case measure => simp [intOf]; omega
    · have hkn : k = n := by omega
      subst hkn
      go_wp2_with fail
      go_ret
      refine ⟨A1, c1, rfl, ?_⟩
      have h := HW.out
      rwa [List.take_of_length_le (by rw [HL.out]; exact Nat.le_refl _)] at h
set_option maxHeartbeats 1600000 in
set_option maxRecDepth 100000 in
theorem fsame_ok (A B : Option Addr) (n ca cb : Nat) (ls : List ByteArray) (hA : Kd.string.C w A n ls) (hB : Kd.string.C w B n ls) :
    Calls Try.prog 33 #[.slice A n ca, .slice B n cb] w fun e w' => e = .returned (.bool true) ∧ Drawn0 w w' := by
  have HA := Aside0.mk hA
  have HB := Aside0.mk hB
  have hm := hA.2.1
  clear hA hB
  go_enter Try.func33, Try.ntmps33
  go_wp2_with fail
  go_loopw [13, 5] (fun i _ wr => ∃ k : Nat, k ≤ n ∧ i = .int .i64 k ∧ Aside0 (Drawn0 w wr)) (fun i _ _ => n - (intOf i).toNat)
  case atStart => exact ⟨0, Nat.zero_le _, rfl, ⟨Drawn0.refl _⟩⟩
  case round =>
    obtain ⟨k, hk, rfl, HD⟩ := hrel
    by_cases hlt : k < n
    · obtain ⟨ad, x, rfl, hca, hxa⟩ := C_scalar_at (enc := Value.string) (h1 := fun _ => rfl) (Kd.C_below HA.out HD.out.below) k hlt
      obtain ⟨bd, y, rfl, hcb, hxb⟩ := C_scalar_at (enc := Value.string) (h1 := fun _ => rfl) (Kd.C_below HB.out HD.out.below) k hlt
      obtain rfl : x = y := by have h := hxa.out; rw [hxb.out] at h; exact (Option.some.inj h).symm
      go_upto_region 6 with fail
      refine start_ (n := 9) (S := fun w' => w'.cell? (ad.add k) = some (.string x) ∧ w'.cell? (bd.add k) = some (.string x)) (ds := []) #[false, false, false, false, false, false, false, false, false] (by kernel_rfl) rfl rfl ⟨hca, hcb⟩ (fun hHeld => ?_)
      refine pure_ (i := 0) (N := some 16) (v := ?_) (a' := ?_) #[true, false, false, false, false, false, false, false, false] rfl rfl (by kernel_rfl) (fun _ _ _ h => h) (Or.inl ⟨by rfl, ?_⟩) ?_ ?_
      rotate_left
      · intro w'
        go_simp
        with_reducible rfl
      rotate_left
      · simp only [Act.put, List.setIfInBounds_toArray, List.set_cons_zero, List.set_cons_succ, i64_w, i32_w]
        rfl
      refine pure_ (i := 1) (N := some 17) (v := ?_) (a' := ?_) #[true, true, false, false, false, false, false, false, false] rfl rfl (by kernel_rfl) (fun _ _ _ h => h) (Or.inl ⟨by rfl, ?_⟩) ?_ ?_
      rotate_left
      · intro w'
        go_simp
        with_reducible rfl
      rotate_left
      · simp only [Act.put, List.setIfInBounds_toArray, List.set_cons_zero, List.set_cons_succ, i64_w, i32_w]
        rfl
      refine pure_ (i := 2) (N := some 18) (v := ?_) (a' := ?_) #[true, true, true, false, false, false, false, false, false] rfl rfl (by kernel_rfl) (fun _ _ _ h => h) (Or.inl ⟨by rfl, ?_⟩) ?_ ?_
      rotate_left
      · intro w'
        go_simp
        with_reducible rfl
      rotate_left
      · simp only [Act.put, List.setIfInBounds_toArray, List.set_cons_zero, List.set_cons_succ, i64_w, i32_w]
        rfl
      refine pure_ (i := 4) (N := some 20) (v := ?_) (a' := ?_) #[true, true, true, false, true, false, false, false, false] rfl rfl (by kernel_rfl) (fun _ _ _ h => h) (Or.inl ⟨by rfl, ?_⟩) ?_ ?_
      rotate_left
      · intro w'
        go_simp
        with_reducible rfl
      rotate_left
      · simp only [Act.put, List.setIfInBounds_toArray, List.set_cons_zero, List.set_cons_succ, i64_w, i32_w]
        rfl
      refine pure_ (i := 5) (N := some 21) (v := ?_) (a' := ?_) #[true, true, true, false, true, true, false, false, false] rfl rfl (by kernel_rfl) (fun _ _ _ h => h) (Or.inl ⟨by rfl, ?_⟩) ?_ ?_
      rotate_left
      · intro w'
        go_simp
        with_reducible rfl
      rotate_left
      · simp only [Act.put, List.setIfInBounds_toArray, List.set_cons_zero, List.set_cons_succ, i64_w, i32_w]
        rfl
      refine pure_ (i := 6) (N := some 22) (v := ?_) (a' := ?_) #[true, true, true, false, true, true, true, false, false] rfl rfl (by kernel_rfl) (fun _ _ _ h => h) (Or.inl ⟨by rfl, ?_⟩) ?_ ?_
      rotate_left
      · intro w'
        go_simp
        with_reducible rfl
      rotate_left
      · simp only [Act.put, List.setIfInBounds_toArray, List.set_cons_zero, List.set_cons_succ, i64_w, i32_w]
        rfl
      refine take_ (i := 3) (N := some 19) (v := ?_) (a' := ?_) #[true, true, true, true, true, true, true, false, false] rfl rfl (by kernel_rfl) (fun _ _ _ h => h) (Or.inl ⟨by rfl, ?_⟩) hHeld ?_ ?_
      rotate_left
      · rintro w' ⟨s0, s1⟩
        go_simp
        with_reducible rfl
      rotate_left
      · simp only [Act.put, List.setIfInBounds_toArray, List.set_cons_zero, List.set_cons_succ, i64_w, i32_w]
        rfl
      refine take_ (i := 7) (N := some 23) (v := ?_) (a' := ?_) #[true, true, true, true, true, true, true, true, false] rfl rfl (by kernel_rfl) (fun _ _ _ h => h) (Or.inl ⟨by rfl, ?_⟩) hHeld ?_ ?_
      rotate_left
      · rintro w' ⟨s0, s1⟩
        go_simp
        with_reducible rfl
      rotate_left
      · simp only [Act.put, List.setIfInBounds_toArray, List.set_cons_zero, List.set_cons_succ, i64_w, i32_w]
        rfl
      refine pure_ (i := 8) (N := some 24) (v := ?_) (a' := ?_) #[true, true, true, true, true, true, true, true, true] rfl rfl (by kernel_rfl) (fun _ _ _ h => h) (Or.inl ⟨by rfl, ?_⟩) ?_ ?_
      rotate_left
      · intro w'
        go_simp
        with_reducible rfl
      rotate_left
      · simp only [Act.put, List.setIfInBounds_toArray, List.set_cons_zero, List.set_cons_succ, i64_w, i32_w]
        rfl
      refine done_ (by kernel_rfl) ?_
      clear hHeld
      go_wp2_with fail
      go_roundw
      case rel => exact ⟨k + 1, by omega, by go_num, ⟨HD.out.step 1⟩⟩
      case measure => simp [intOf]; omega
    · have hkn : k = n := by omega
      subst hkn
      go_wp2_with fail
      go_ret
      exact ⟨rfl, HD.out⟩
end
end Go.Proofs.Ytehbchggekbkkaa
