/- The frame's functions: Cut. -/
import Derived.Test.YtehbchggekbkkaaFrameL
import Derived.Test.YtehbchggekbkkaaRowsAdd
set_option linter.unusedVariables false
set_option linter.unusedSimpArgs false
namespace Go.Proofs.Ytehbchggekbkkaa
open Go.RowKit Go.Proofs.YtehbchggekbkkaaW.PrintWords Go.Proofs.YtehbchggekbkkaaW.PrintLast
/-- What is cut: the payloads, how many bytes they take, the error of what follows. -/
def cutN : Nat → List Int → List (List Int) × Nat × Int
  | 0, _ => ([], 0, 0)
  | k + 1, xs => if xs.length = 0 then ([], 0, 0) else if openErr xs = 0 then
      (openTxt xs :: (cutN k (xs.drop (8 + (rd4 xs).toNat))).1, 8 + (rd4 xs).toNat + (cutN k (xs.drop (8 + (rd4 xs).toNat))).2.1, (cutN k (xs.drop (8 + (rd4 xs).toNat))).2.2)
    else ([], 0, openErr xs)
def cutOf (xs : List Int) : List (List Int) × Nat × Int := cutN (xs.length + 1) xs
theorem cutN_more : ∀ (k : Nat) (xs : List Int), xs.length < k → cutN k xs = cutN (k + 1) xs
  | 0, xs, h => by omega
  | k + 1, xs, h => by
    unfold cutN
    by_cases h0 : xs.length = 0
    · rw [if_pos h0, if_pos h0]
    · rw [if_neg h0, if_neg h0]
      by_cases h1 : openErr xs = 0
      · rw [if_pos h1, if_pos h1, cutN_more k (xs.drop (8 + (rd4 xs).toNat)) (by rw [List.length_drop]; omega)]
      · rw [if_neg h1, if_neg h1]
theorem cutN_any (xs : List Int) : ∀ k, xs.length < k → cutN k xs = cutOf xs := by
  intro k hk
  obtain ⟨d, rfl⟩ : ∃ d, k = xs.length + 1 + d := ⟨k - (xs.length + 1), by omega⟩
  clear hk
  induction d with
  | zero => rfl
  | succ d ih => rw [← ih, show xs.length + 1 + (d + 1) = xs.length + 1 + d + 1 by omega, ← cutN_more _ xs (by omega)]
theorem cutOf_nil : cutOf [] = ([], 0, 0) := rfl
theorem cutOf_bad (xs : List Int) (h0 : xs.length ≠ 0) (h : openErr xs ≠ 0) : cutOf xs = ([], 0, openErr xs) := by
  unfold cutOf cutN
  rw [if_neg h0, if_neg h]
theorem cutOf_step (xs : List Int) (h0 : xs.length ≠ 0) (h : openErr xs = 0) :
    cutOf xs = (openTxt xs :: (cutOf (xs.drop (8 + (rd4 xs).toNat))).1, 8 + (rd4 xs).toNat + (cutOf (xs.drop (8 + (rd4 xs).toNat))).2.1, (cutOf (xs.drop (8 + (rd4 xs).toNat))).2.2) := by
  have e := cutN_any (xs.drop (8 + (rd4 xs).toNat)) xs.length (by rw [List.length_drop]; omega)
  show cutN (xs.length + 1) xs = _
  rw [← e]
  conv => lhs; unfold cutN
  rw [if_neg h0, if_pos h]
/-- How far a cut has come: acc payloads, at byte k. -/
def cutAt (xs : List Int) (acc : List (List Int)) (k : Nat) : Prop := k ≤ xs.length ∧ acc.length * 8 ≤ k ∧ (cutOf xs).1 = acc ++ (cutOf (xs.drop k)).1 ∧ (cutOf xs).2.1 = k + (cutOf (xs.drop k)).2.1 ∧ (cutOf xs).2.2 = (cutOf (xs.drop k)).2.2
theorem cutAt_start (xs : List Int) : cutAt xs [] 0 := ⟨Nat.zero_le _, Nat.zero_le _, by simp, by simp, by simp⟩
theorem cutAt_step {xs : List Int} {acc : List (List Int)} {k : Nat} (h : cutAt xs acc k) (hb : isB xs) (hk : k < xs.length) (ho : openErr (xs.drop k) = 0) :
    ∃ v : Nat, openEnd (xs.drop k) = 8 + v ∧ k + (8 + v) ≤ xs.length ∧ cutAt xs (acc ++ [openTxt (xs.drop k)]) (k + (8 + v)) := by
  obtain ⟨v, hv, hv1, hv2, hend, htl, _⟩ := seal_open (xs.drop k) (fun x hx => hb x (List.mem_of_mem_drop hx)) ho
  rw [List.length_drop] at hv2
  obtain ⟨h1, h2, h3, h4, h5⟩ := h
  have hs := cutOf_step (xs.drop k) (by rw [List.length_drop]; omega) ho
  rw [hv, Int.toNat_natCast, List.drop_drop] at hs
  refine ⟨v, hend, by omega, by omega, by rw [List.length_append]; simp; omega, ?_, ?_, ?_⟩
  · rw [h3, hs]; simp
  · rw [h4, hs]; show k + (8 + v + _) = _; omega
  · rw [h5, hs]
theorem cutAt_bad {xs : List Int} {acc : List (List Int)} {k : Nat} (h : cutAt xs acc k) (hk : k < xs.length) (ho : openErr (xs.drop k) ≠ 0) : cutOf xs = (acc, k, openErr (xs.drop k)) := by
  obtain ⟨h1, h2, h3, h4, h5⟩ := h
  have hs := cutOf_bad (xs.drop k) (by rw [List.length_drop]; omega) ho
  rw [hs] at h3 h4 h5
  rw [Prod.ext_iff, Prod.ext_iff]
  exact ⟨by simpa using h3, by simpa using h4, by simpa using h5⟩
theorem cutAt_end {xs : List Int} {acc : List (List Int)} (h : cutAt xs acc xs.length) : cutOf xs = (acc, xs.length, 0) := by
  obtain ⟨h1, h2, h3, h4, h5⟩ := h
  rw [List.drop_length, cutOf_nil] at h3 h4 h5
  rw [Prod.ext_iff, Prod.ext_iff]
  exact ⟨by simpa using h3, by simpa using h4, by simpa using h5⟩
section
variable {w0 w : World} {F : HP}
theorem Try.finfoRow : (Try.prog.info? 31).map (fun i => (i.zero, i.size, i.bytes)) = some (some (.slice none 0 0), 1, 24) := by kernel_rfl
set_option maxHeartbeats 3200000 in
set_option maxRecDepth 100000 in
theorem fcut_ok (A : Option Addr) (n c : Nat) (xs : List Int) (hm : n ≤ 16777216) (hc : n ≤ c) (h : Hw w0 w F) (hE : Ent w0 F (fun w => (Kd.int .u8).C w A n xs)) (hb : isB xs) :
    Calls Try.prog 31 #[.slice A n c] w fun e w' => ∃ A' n' c' hs, e = .returned (.tuple #[.slice A' n' c', .int .i64 ((cutOf xs).2.1 : Int), .int .i64 (cutOf xs).2.2]) ∧
      Hw w0 w' (row KHdr 31 (.slice A' n' c') hs * (rowsHP (Kd.int .u8) 5 hs (cutOf xs).1 * F)) := by
  have hl : xs.length = n := (hE w h).1
  have HL := Aside0.mk hl
  have H := Aside0.mk h
  have HE := Aside0.mk hE
  have HB := Aside0.mk hb
  obtain ⟨inf, hinf, hiz0, hiz1, hiz2⟩ := info_parts Try.finfoU8
  clear h hE hb hl hiz0 hiz2
  go_enter Try.func31, Try.ntmps31
  go_wp2_with fail
  go_loopw [5, 6] (fun v i wr => ∃ (k m : Nat) (A1 : Option Addr) (c1 : Nat) (hs : List Hdr) (acc : List (List Int)), k ≤ n ∧ m * 8 ≤ k ∧ i = .int .i64 k ∧ v = .slice A1 m c1 ∧ Aside0 (acc.length = m) ∧ Aside0 (cutAt xs acc k) ∧
    Aside0 (Hw w0 wr (row KHdr 31 (.slice A1 m c1) hs * (rowsHP (Kd.int .u8) 5 hs acc * F)))) (fun _ i _ => n - (intOf i).toNat)
  case atStart => exact ⟨0, 0, none, 0, [], [], Nat.zero_le _, Nat.le_refl _, rfl, rfl, ⟨rfl⟩, ⟨cutAt_start xs⟩, ⟨(H.out.emp_mul.as (Q := rowsHP (Kd.int .u8) 5 [] [] * F) rfl).row_nil KHdr 31⟩⟩
  case round =>
    obtain ⟨k, m, A1, c1, hs, acc, hk, hmk, rfl, rfl, HM, HCA, HW⟩ := hrel
    clear H
    by_cases hlt : k < n
    · obtain ⟨A2, hrun2, hC2⟩ := sl_drop (Kd.int .u8) 31 5 Try.underlying31 hinf hiz1 A n c (k : Int) k rfl (by omega) hc
      have HC2 := Aside0.mk hC2
      have hb2 : isB (xs.drop k) := fun x hx => HB.out x (List.mem_of_mem_drop hx)
      have HB2 := Aside0.mk hb2
      clear hC2 hb2
      go_wp2_with fail
      refine (fopen_ok A2 (n - k) (c - k) (xs.drop k) (by omega) (by omega) HW.out (fun w' hw => HC2.out _ _ (HE.out.use hw.right.right)) HB2.out).mono ?_
      rintro e w1 ⟨A3, n3, c3, rfl, h3⟩
      by_cases ho : openErr (xs.drop k) = 0
      · obtain ⟨v, hv1, hv2, hca⟩ := cutAt_step HCA.out HB.out (by rw [HL.out]; exact hlt) ho
        rw [HL.out] at hv2
        rw [ho, hv1]
        have HCA2 := Aside0.mk hca
        have e8 : IntKind.i64.wrap ((k : Int) + (8 + v)) = k + (8 + v) := by rw [IntKind.wrap_i64]; omega
        have H3 := Aside0.mk (h3.as (Q := row KHdr 31 (.slice A1 m c1) hs * (rowsHP (Kd.int .u8) 5 hs acc * (row (Kd.int .u8) 5 (.slice A3 n3 c3) (openTxt (xs.drop k)) * F))) (by ac_rfl))
        clear h3 HW hca ho hv1 hrun2 HC2
        go_wp2_with (at_builtin; refine Hw.append_rows rfl (.tmp 27) (.tmp 29) 58 31 rfl Try.underlying58 Try.finfoRow A1 m c1 hs acc A3 n3 c3 (openTxt (xs.drop k)) rfl rfl H3.out (by omega) ?_; intro A4 c4 w4 H4)
        go_roundw
        case rel => exact ⟨k + (8 + v), m + 1, A4, c4, _, _, by omega, by omega, by go_num, rfl, ⟨by simp [HM.out]⟩, HCA2, H4⟩
        case measure => simp [intOf]; omega
      · have hcut := cutAt_bad HCA.out (by rw [HL.out]; exact hlt) ho
        obtain ⟨er, her⟩ : ∃ er, er = openErr (xs.drop k) := ⟨_, rfl⟩
        obtain ⟨o2, o3⟩ := open_bad _ ho
        rw [o2] at h3
        rw [← her] at ho hcut
        rw [o3, ← her]
        have hne : (er != 0) = true := by simpa using ho
        have CUT := Aside0.mk hcut
        have H3 := Aside0.mk h3.right
        clear h3 HW ho hcut her hrun2 HC2 o2 o3
        go_wp2_with fail
        go_ret3
        refine ⟨A1, m, c1, hs, by rw [CUT.out]; rfl, ?_⟩
        rw [CUT.out]
        exact H3.out
    · have hkn : k = n := by omega
      subst hkn
      have hcut := cutAt_end (by rw [HL.out]; exact HCA.out)
      rw [HL.out] at hcut
      have CUT := Aside0.mk hcut
      clear hcut
      go_wp2_with fail
      go_ret3
      refine ⟨A1, m, c1, hs, by rw [CUT.out]; rfl, ?_⟩
      rw [CUT.out]
      exact HW.out
end
end Go.Proofs.Ytehbchggekbkkaa
