/- The frame's functions: Open. -/
import Derived.Test.YtehbchggekbkkaaFrameB
set_option linter.unusedVariables false
set_option linter.unusedSimpArgs false
namespace Go.Proofs.Ytehbchggekbkkaa
open Go.RowKit Go.Proofs.YtehbchggekbkkaaW.PrintWords Go.Proofs.YtehbchggekbkkaaW.PrintLast
/-- What is opened: the payload, how many bytes its frame has, the error's number. -/
def openErr (xs : List Int) : Int :=
  if xs.length < 8 then 10 else if 16384 < rd4 xs then 2 else if (xs.length : Int) - 8 < rd4 xs then 10
  else if ((crc (xs.take 4 ++ (xs.take (8 + (rd4 xs).toNat)).drop 8)).toNat : Int) = rd4 (xs.drop 4) then 0 else 11
def openTxt (xs : List Int) : List Int := if openErr xs = 0 then (xs.take (8 + (rd4 xs).toNat)).drop 8 else []
def openEnd (xs : List Int) : Int := if openErr xs = 0 then 8 + rd4 xs else 0
section
variable {w0 w : World} {F : HP}
theorem fopen_short (A : Option Addr) (n c : Nat) (hn : n < 8) :
    Calls Try.prog 27 #[.slice A n c] w fun e w' => e = .returned (.tuple #[.slice none 0 0, .int .i64 0, .int .i64 10]) ∧ w' = w := by
  have d1 : decide ((n : Int) < 8) = true := decide_eq_true (by omega)
  have d2 : decide (n < 8) = true := decide_eq_true (by omega)
  go_enter Try.func27, Try.ntmps27
  go_wp2_with fail
  go_ret3
  exact ⟨rfl, rfl⟩
theorem fopen_long (A : Option Addr) (n c : Nat) (xs : List Int) (hn : 8 ≤ n) (hc : n ≤ c) (hC : (Kd.int .u8).C w A n xs) (hb : isB xs) (hv : 16384 < rd4 xs) :
    Calls Try.prog 27 #[.slice A n c] w fun e w' => e = .returned (.tuple #[.slice none 0 0, .int .i64 0, .int .i64 2]) ∧ w' = w := by
  have d1 : decide ((n : Int) < 8) = false := decide_eq_false (by omega)
  have d2 : decide (n < 8) = false := decide_eq_false (by omega)
  have HC := Aside0.mk hC
  have HB := Aside0.mk hb
  obtain ⟨v, hvv⟩ : ∃ v, v = rd4 xs := ⟨_, rfl⟩
  rw [← hvv] at hv
  have V := Aside0.mk hvv
  have d3 : decide (16384 < v) = true := decide_eq_true hv
  clear hC hb hvv
  go_enter Try.func27, Try.ntmps27
  go_wp2_with fail
  refine (fread_ok w A n c xs HC.out (by omega) hc HB.out).mono ?_
  rintro e w1 ⟨rfl, rfl⟩
  rw [← V.out]
  go_wp2_with fail
  go_ret3
  exact ⟨rfl, rfl⟩
theorem fopen_cut (A : Option Addr) (n c : Nat) (xs : List Int) (hn : 8 ≤ n) (hm : n ≤ 9223372036854775807) (hc : n ≤ c) (hC : (Kd.int .u8).C w A n xs) (hb : isB xs) (hv : rd4 xs ≤ 16384) (hv2 : (n : Int) - 8 < rd4 xs) :
    Calls Try.prog 27 #[.slice A n c] w fun e w' => e = .returned (.tuple #[.slice none 0 0, .int .i64 0, .int .i64 10]) ∧ w' = w := by
  have d1 : decide ((n : Int) < 8) = false := decide_eq_false (by omega)
  have d2 : decide (n < 8) = false := decide_eq_false (by omega)
  have HC := Aside0.mk hC
  have HB := Aside0.mk hb
  have hr := rd4_range xs hb
  obtain ⟨v, hvv⟩ : ∃ v, v = rd4 xs := ⟨_, rfl⟩
  rw [← hvv] at hv hv2 hr
  have V := Aside0.mk hvv
  have d3 : decide (16384 < v) = false := decide_eq_false (by omega)
  have hr0 := hr.1
  have hr1 := hr.2
  have d4 : decide ((n : Int) - 8 < v) = true := decide_eq_true hv2
  clear hC hb hvv hr
  go_enter Try.func27, Try.ntmps27
  go_wp2_with fail
  refine (fread_ok w A n c xs HC.out (by omega) hc HB.out).mono ?_
  rintro e w1 ⟨rfl, rfl⟩
  rw [← V.out]
  go_wp2_with fail
  go_ret3
  exact ⟨rfl, rfl⟩
set_option maxHeartbeats 1600000 in
set_option maxRecDepth 100000 in
theorem fopen_sum (A : Option Addr) (n c : Nat) (xs : List Int) (hn : 8 ≤ n) (hm : n ≤ 140737488355328) (hc : n ≤ c) (h : Hw w0 w F) (hE : Ent w0 F (fun w => (Kd.int .u8).C w A n xs)) (hb : isB xs) (v : Nat) (hv : rd4 xs = v) (hv1 : v ≤ 16384) (hv2 : 8 + v ≤ n) (q : Bool)
    (hq : (((crc (xs.take 4 ++ (xs.take (8 + v)).drop 8)).toNat : Int) != rd4 (xs.drop 4)) = q) :
    Calls Try.prog 27 #[.slice A n c] w fun e w' => (q = true ∧ e = .returned (.tuple #[.slice none 0 0, .int .i64 0, .int .i64 11]) ∧ Hw w0 w' F) ∨ (q = false ∧ ∃ A' n' c', e = .returned (.tuple #[.slice A' n' c', .int .i64 (8 + v), .int .i64 0]) ∧ Hw w0 w' (row (Kd.int .u8) 5 (.slice A' n' c') ((xs.take (8 + v)).drop 8) * F)) := by
  have d1 : decide ((n : Int) < 8) = false := decide_eq_false (by omega)
  have d2 : decide (n < 8) = false := decide_eq_false (by omega)
  have HE := Aside0.mk hE
  have H := Aside0.mk h
  have HB := Aside0.mk hb
  obtain ⟨inf, hinf, hiz0, hiz1, hiz2⟩ := info_parts Try.finfoU8
  obtain ⟨hrun4, hC4⟩ := sl_take (Kd.int .u8) 31 5 Try.underlying31 hinf A n c 4 4 rfl (by omega) hc
  obtain ⟨A8, hrun8, hC8⟩ := sl_mid (Kd.int .u8) 31 5 Try.underlying31 hinf hiz1 A n c 8 (8 + (v : Int)) 8 (8 + v) rfl (by omega) (by omega) hv2 hc
  obtain ⟨A9, hrun9, hC9⟩ := sl_drop (Kd.int .u8) 31 5 Try.underlying31 hinf hiz1 A n c 4 4 rfl (by omega) hc
  rw [show 8 + v - 8 = v by omega] at hrun8 hC8
  have HC4 := Aside0.mk hC4
  have HC8 := Aside0.mk hC8
  have HC9 := Aside0.mk hC9
  have V := Aside0.mk hv
  clear hv
  have d3 : decide ((16384 : Int) < v) = false := decide_eq_false (by omega)
  have d3' : decide (16384 < v) = false := decide_eq_false (by omega)
  have d4 : decide ((n : Int) - 8 < v) = false := decide_eq_false (by omega)
  have e1 : wrap64 (8 + (v : Int)) = 8 + v := by unfold wrap64; omega
  have e2 : wrap64 (v : Int) = v := by unfold wrap64; omega
  have e3 : wrap64 ((n : Int) - 8) = n - 8 := by unfold wrap64; omega
  obtain ⟨s, hs⟩ : ∃ s : Int, s = ((crc (xs.take 4 ++ (xs.take (8 + v)).drop 8)).toNat : Int) := ⟨_, rfl⟩
  obtain ⟨r, hr⟩ : ∃ r : Int, r = rd4 (xs.drop 4) := ⟨_, rfl⟩
  rw [← hs, ← hr] at hq
  have S := Aside0.mk hs
  have R := Aside0.mk hr
  clear h hE hb hC4 hC8 hC9 hiz0 hiz1 hiz2 hinf hs hr
  go_enter Try.func27, Try.ntmps27
  go_wp2_with fail
  refine (fread_ok w A n c xs (HE.out _ H.out) (by omega) hc HB.out).mono ?_
  rintro e w1 ⟨rfl, rfl⟩
  rw [V.out]
  go_upto_region 9 with fail
  have H1 := Aside0.mk H.out
  have hB4 : isB (xs.drop 4) := fun x hx => HB.out x (List.mem_of_mem_drop hx)
  have HB4 := Aside0.mk hB4
  clear hB4
  refine start_ (n := 11) (S := fun w' => True) (ds := []) #[false, false, false, false, false, false, false, false, false, false, false] (by kernel_rfl) rfl rfl trivial (fun hHeld => ?_)
  refine pure_ (i := 0) (N := some 25) (v := ?_) (a' := ?_) #[true, false, false, false, false, false, false, false, false, false, false] rfl rfl (by kernel_rfl) (fun _ _ _ h => h) (Or.inl ⟨by rfl, ?_⟩) ?_ ?_
  rotate_left
  · intro w'
    go_simp
    with_reducible rfl
  rotate_left
  · simp only [Act.put, List.setIfInBounds_toArray, List.set_cons_zero, List.set_cons_succ, i64_w, i32_w]
    rfl
  refine pure_ (i := 1) (N := some 26) (v := ?_) (a' := ?_) #[true, true, false, false, false, false, false, false, false, false, false] rfl rfl (by kernel_rfl) (fun _ _ _ h => h) (Or.inl ⟨by rfl, ?_⟩) ?_ ?_
  rotate_left
  · intro w'
    go_simp
    with_reducible rfl
  rotate_left
  · simp only [Act.put, List.setIfInBounds_toArray, List.set_cons_zero, List.set_cons_succ, i64_w, i32_w]
    rfl
  refine pure_ (i := 2) (N := some 27) (v := ?_) (a' := ?_) #[true, true, true, false, false, false, false, false, false, false, false] rfl rfl (by kernel_rfl) (fun _ _ _ h => h) (Or.inl ⟨by rfl, ?_⟩) ?_ ?_
  rotate_left
  · intro w'
    go_simp
    with_reducible rfl
  rotate_left
  · simp only [Act.put, List.setIfInBounds_toArray, List.set_cons_zero, List.set_cons_succ, i64_w, i32_w]
    rfl
  refine pure_ (i := 3) (N := some 28) (v := ?_) (a' := ?_) #[true, true, true, true, false, false, false, false, false, false, false] rfl rfl (by kernel_rfl) (fun _ _ _ h => h) (Or.inl ⟨by rfl, ?_⟩) ?_ ?_
  rotate_left
  · intro w'
    go_simp
    with_reducible rfl
  rotate_left
  · simp only [Act.put, List.setIfInBounds_toArray, List.set_cons_zero, List.set_cons_succ, i64_w, i32_w]
    rfl
  refine pure_ (i := 4) (N := some 29) (v := ?_) (a' := ?_) #[true, true, true, true, true, false, false, false, false, false, false] rfl rfl (by kernel_rfl) (fun _ _ _ h => h) (Or.inl ⟨by rfl, ?_⟩) ?_ ?_
  rotate_left
  · intro w'
    go_simp
    with_reducible rfl
  rotate_left
  · simp only [Act.put, List.setIfInBounds_toArray, List.set_cons_zero, List.set_cons_succ, i64_w, i32_w]
    rfl
  refine pure_ (i := 7) (N := some 32) (v := ?_) (a' := ?_) #[true, true, true, true, true, false, false, true, false, false, false] rfl rfl (by kernel_rfl) (fun _ _ _ h => h) (Or.inl ⟨by rfl, ?_⟩) ?_ ?_
  rotate_left
  · intro w'
    go_simp
    with_reducible rfl
  rotate_left
  · simp only [Act.put, List.setIfInBounds_toArray, List.set_cons_zero, List.set_cons_succ, i64_w, i32_w]
    rfl
  refine pure_ (i := 8) (N := some 33) (v := ?_) (a' := ?_) #[true, true, true, true, true, false, false, true, true, false, false] rfl rfl (by kernel_rfl) (fun _ _ _ h => h) (Or.inl ⟨by rfl, ?_⟩) ?_ ?_
  rotate_left
  · intro w'
    go_simp
    with_reducible rfl
  rotate_left
  · simp only [Act.put, List.setIfInBounds_toArray, List.set_cons_zero, List.set_cons_succ, i64_w, i32_w]
    rfl
  refine one_ (i := 5) (N := some 30) #[true, true, true, true, true, true, false, true, true, false, false] rfl rfl (by kernel_rfl) (by decide) (fun K hK => ?_)
  refine value_ (w1 := ?_) (v := ?_) (by rfl) rfl ?_ ?_
  rotate_left 2
  · go_simp
    constructor
    · rfl
    · rfl
  have H2n := Aside0.mk (H1.out.alloc (.cells #[.slice A 4 c, .slice A8 v (c - 8)] 31))
  have H2 := Aside0.mk (H1.out.alloc (.cells #[.slice A 4 c, .slice A8 v (c - 8)] 31)).drew
  have HQ4 := Aside0.mk (HC4.out _ _ (HE.out.use H2.out.right))
  have HQ8 := Aside0.mk (HC8.out _ _ (HE.out.use H2.out.right))
  have HQ9 := Aside0.mk (HC9.out _ _ (HE.out.use H2.out.right))
  refine hK.out _ _ trivial (fun hHeld => ?_)
  clear hK K
  refine norm_ (a' := ?_) ?_ ?_
  rotate_left
  · show Act.put _ (some 30) _ = _
    simp only [Act.put, List.setIfInBounds_toArray, List.set_cons_zero, List.set_cons_succ, i64_w, i32_w]
    rfl
  refine one_ (i := 6) (N := some 31) #[true, true, true, true, true, true, true, true, true, false, false] rfl rfl (by kernel_rfl) (by decide) (fun K hK => ?_)
  refine goes_ Try.func25 (by kernel_rfl) rfl #[.slice (some ⟨w1.heap.size, 0, none⟩) 2 2] (by rfl) rfl rfl (by simp only [List.map_toArray, List.map_cons, List.map_nil]; rfl) ?_
  with_reducible refine (fsum_ok _ _ 2 2 [xs.take 4, (xs.take (8 + v)).drop 8] (C_lit2 (n := 4) (m := v) H2.out.blk_at.1 (C_len HQ4.out) (by omega) HQ4.out (C_len HQ8.out) (by omega) HQ8.out)).mono ?_
  rintro e w2 ⟨rfl, rfl⟩
  refine ⟨_, rfl, ?_⟩
  rw [show ((crc ([xs.take 4, (xs.take (8 + v)).drop 8] : List (List Int)).flatten).toNat : Int) = s by rw [S.out]; simp]
  refine hK.out _ _ trivial (fun hHeld => ?_)
  clear hK K
  refine norm_ (a' := ?_) ?_ ?_
  rotate_left
  · show Act.put _ (some 31) _ = _
    simp only [Act.put, List.setIfInBounds_toArray, List.set_cons_zero, List.set_cons_succ, i64_w, i32_w]
    rfl
  refine one_ (i := 9) (N := some 34) #[true, true, true, true, true, true, true, true, true, true, false] rfl rfl (by kernel_rfl) (by decide) (fun K hK => ?_)
  refine goes_ Try.func45 (by kernel_rfl) rfl #[.slice A9 (n - 4) (c - 4)] (by rfl) rfl rfl (by simp only [List.map_toArray, List.map_cons, List.map_nil]; rfl) ?_
  with_reducible refine (fread_ok _ A9 (n - 4) (c - 4) (xs.drop 4) HQ9.out (by omega) (by omega) HB4.out).mono ?_
  rintro e w3 ⟨rfl, rfl⟩
  refine ⟨_, rfl, ?_⟩
  rw [← R.out]
  refine hK.out _ _ trivial (fun hHeld => ?_)
  clear hK K
  refine norm_ (a' := ?_) ?_ ?_
  rotate_left
  · show Act.put _ (some 34) _ = _
    simp only [Act.put, List.setIfInBounds_toArray, List.set_cons_zero, List.set_cons_succ, i64_w, i32_w]
    rfl
  refine pure_ (i := 10) (N := some 35) (v := ?_) (a' := ?_) #[true, true, true, true, true, true, true, true, true, true, true] rfl rfl (by kernel_rfl) (fun _ _ _ h => h) (Or.inl ⟨by rfl, ?_⟩) ?_ ?_
  rotate_left
  · intro w'
    go_simp
    with_reducible rfl
  rotate_left
  · simp only [Act.put, List.setIfInBounds_toArray, List.set_cons_zero, List.set_cons_succ, i64_w, i32_w]
    rfl
  refine done_ (by kernel_rfl) ?_
  cases q
  · clear d1 d2 d3 d3' d4 hrun4 hrun9
    have H3 := Aside0.mk (H2n.out.alloc (.cells ([] : List Value).toArray 5)).drew
    have HC := Aside0.mk (HC8.out _ _ (HE.out.use H3.out.right.right))
    rw [World.size_alloc] at H3
    clear H1 H2 H2n
    go_wp2_with (at_builtin; refine Hw.append_row (Value.int .u8) (0 : Int) rfl (.tmp 36) (.tmp 39) 31 5 (.int .u8 0) 1 rfl Try.underlying31 Try.finfoU8 rfl (by decide) _ [] ((xs.take (8 + v)).drop 8) _ v (c - 8) rfl rfl (Hw.row_of_blk (xs := []) (enc := Value.int .u8) (h1 := fun _ => rfl) rfl (by decide) H3.out) HC.out (by simp; omega) ?_; intro A1 n1 c1 w4 hn1 hw4; have H4 := Aside0.mk hw4; clear hw4)
    go_ret3
    refine ⟨A1, n1, c1, rfl, ?_⟩
    have h4 := H4.out.dropB w1.heap.size
    rw [List.nil_append] at h4
    exact h4
  · clear d1 d2 d3 d3' d4 hrun4 hrun8 hrun9
    have H3 := Aside0.mk H2.out.right
    clear H1 H2 H2n
    go_wp2_with fail
    go_ret3
    exact ⟨rfl, H3.out⟩
/-- Open, whatever it is given. -/
theorem fopen_ok (A : Option Addr) (n c : Nat) (xs : List Int) (hm : n ≤ 140737488355328) (hc : n ≤ c) (h : Hw w0 w F) (hE : Ent w0 F (fun w => (Kd.int .u8).C w A n xs)) (hb : isB xs) :
    Calls Try.prog 27 #[.slice A n c] w fun e w' => ∃ A' n' c', e = .returned (.tuple #[.slice A' n' c', .int .i64 (openEnd xs), .int .i64 (openErr xs)]) ∧ Hw w0 w' (row (Kd.int .u8) 5 (.slice A' n' c') (openTxt xs) * F) := by
  have hl : xs.length = n := (hE w h).1
  have hbad : ∀ c : Int, c ≠ 0 → openErr xs = c → (∃ P : Prop, P) → openTxt xs = [] ∧ openEnd xs = 0 := fun c h0 h1 _ => by
    unfold openTxt openEnd
    rw [h1, if_neg h0, if_neg h0]
    exact ⟨rfl, rfl⟩
  by_cases h1 : n < 8
  · have he : openErr xs = 10 := by unfold openErr; rw [if_pos (by omega)]
    obtain ⟨e1, e2⟩ := hbad 10 (by decide) he ⟨True, trivial⟩
    rw [he, e1, e2]
    refine (fopen_short A n c h1).mono ?_
    rintro e w' ⟨rfl, rfl⟩
    exact ⟨none, 0, 0, rfl, h.row_nil _ _⟩
  · by_cases h2 : 16384 < rd4 xs
    · have he : openErr xs = 2 := by unfold openErr; rw [if_neg (by omega), if_pos h2]
      obtain ⟨e1, e2⟩ := hbad 2 (by decide) he ⟨True, trivial⟩
      rw [he, e1, e2]
      refine (fopen_long A n c xs (by omega) hc (hE w h) hb h2).mono ?_
      rintro e w' ⟨rfl, rfl⟩
      exact ⟨none, 0, 0, rfl, h.row_nil _ _⟩
    · by_cases h3 : (xs.length : Int) - 8 < rd4 xs
      · have he : openErr xs = 10 := by unfold openErr; rw [if_neg (by omega), if_neg h2, if_pos h3]
        obtain ⟨e1, e2⟩ := hbad 10 (by decide) he ⟨True, trivial⟩
        rw [he, e1, e2]
        refine (fopen_cut A n c xs (by omega) (by omega) hc (hE w h) hb (by omega) (by omega)).mono ?_
        rintro e w' ⟨rfl, rfl⟩
        exact ⟨none, 0, 0, rfl, h.row_nil _ _⟩
      · have hr := rd4_range xs hb
        obtain ⟨v, hv⟩ : ∃ v : Nat, rd4 xs = v := ⟨(rd4 xs).toNat, by omega⟩
        have hv1 : v ≤ 16384 := by omega
        have hv2 : 8 + v ≤ n := by omega
        refine (fopen_sum A n c xs (by omega) hm hc h hE hb v hv hv1 hv2 _ rfl).mono ?_
        rintro e w' (⟨hq, rfl, hw⟩ | ⟨hq, A', n', c', rfl, hw⟩)
        · have he : openErr xs = 11 := by
            unfold openErr
            rw [if_neg (by omega), if_neg h2, if_neg h3, hv, Int.toNat_natCast, if_neg (by simpa using hq)]
          obtain ⟨e1, e2⟩ := hbad 11 (by decide) he ⟨True, trivial⟩
          rw [he, e1, e2]
          exact ⟨none, 0, 0, rfl, hw.row_nil _ _⟩
        · have he : openErr xs = 0 := by
            unfold openErr
            rw [if_neg (by omega), if_neg h2, if_neg h3, hv, Int.toNat_natCast, if_pos (by simpa using hq)]
          have e1 : openTxt xs = (xs.take (8 + v)).drop 8 := by unfold openTxt; rw [if_pos he, hv, Int.toNat_natCast]
          have e2 : openEnd xs = 8 + v := by unfold openEnd; rw [if_pos he, hv]
          rw [he, e1, e2]
          exact ⟨A', n', c', rfl, hw⟩
end
end Go.Proofs.Ytehbchggekbkkaa
