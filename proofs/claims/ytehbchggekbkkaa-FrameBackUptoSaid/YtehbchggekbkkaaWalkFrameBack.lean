/- FrameBack's walk. -/
import Derived.Test.YtehbchggekbkkaaFrameAwake
import Derived.Test.YtehbchggekbkkaaFrameJ
import Derived.Test.YtehbchggekbkkaaFrameT
import Derived.Test.YtehbchggekbkkaaWGuard
set_option linter.unusedVariables false
set_option linter.unusedSimpArgs false
namespace Go.Proofs.Ytehbchggekbkkaa
open Go.RowKit Go.Proofs.YtehbchggekbkkaaW.PrintWords Go.Proofs.YtehbchggekbkkaaW.PrintLast
/-- The payloads that can be framed. -/
def fits (ls : List (List Int)) : List (List Int) := ls.filter fun x => decide (x.length ≤ 16384)
/-- How long the last frame is; nought where there is none. -/
def lastLen (ls : List (List Int)) : Nat := match ls.getLast? with
  | none => 0
  | some x => 8 + x.length
theorem fits_snoc_in (ls : List (List Int)) (x : List Int) (h : x.length ≤ 16384) : fits (ls ++ [x]) = fits ls ++ [x] := by simp [fits, h]
theorem fits_snoc_out (ls : List (List Int)) (x : List Int) (h : 16384 < x.length) : fits (ls ++ [x]) = fits ls := by simp [fits]; omega
theorem sealAll_snoc (ls : List (List Int)) (x : List Int) : sealAll (ls ++ [x]) = sealAll ls ++ sealOf x := by simp [sealAll]
theorem lastLen_snoc (ls : List (List Int)) (x : List Int) : lastLen (ls ++ [x]) = 8 + x.length := by simp [lastLen]
theorem lastLen_le (ls : List (List Int)) : lastLen ls ≤ (sealAll ls).length := by
  unfold lastLen
  cases h : ls.getLast? with
  | none => simp
  | some x =>
    obtain ⟨ys, rfl⟩ := List.getLast?_eq_some_iff.1 h
    rw [sealAll_snoc, List.length_append, sealOf_len]
    show 8 + x.length ≤ _
    omega
/-- All bulk. -/
def bulkL (ls : List (List Int)) : Nat := (ls.map fun xs => (xs.map fun _ => 1).sum + 1).sum
theorem sum_ones (xs : List Int) : (xs.map fun _ => 1).sum = xs.length := by
  induction xs with
  | nil => rfl
  | cons x xs ih => simp [ih]; omega
theorem sealAll_bulk (ls : List (List Int)) : (sealAll (fits ls)).length ≤ 8 * bulkL ls ∧ (fits ls).length ≤ bulkL ls := by
  induction ls with
  | nil => exact ⟨Nat.le_refl _, Nat.le_refl _⟩
  | cons x ls ih =>
    obtain ⟨h1, h2⟩ := ih
    have e : bulkL (x :: ls) = x.length + 1 + bulkL ls := by simp [bulkL, sum_ones]
    by_cases h : x.length ≤ 16384
    · have e2 : fits (x :: ls) = x :: fits ls := by simp [fits, h]
      have e3 : sealAll (x :: fits ls) = sealOf x ++ sealAll (fits ls) := by simp [sealAll]
      rw [e, e2, e3, List.length_append, sealOf_len, List.length_cons]
      omega
    · have e2 : fits (x :: ls) = fits ls := by simp [fits, h]
      rw [e, e2]
      omega
theorem bulkL_take (ls : List (List Int)) (k : Nat) : bulkL (ls.take k) ≤ bulkL ls := by
  have h : bulkL ls = bulkL (ls.take k) + bulkL (ls.drop k) := by
    unfold bulkL
    rw [← List.sum_append_nat, ← List.map_append, List.take_append_drop]
  omega
/-- Cut short within the last frame: all but the last. -/
theorem cut_less (ls : List (List Int)) (h : ∀ x ∈ ls, isB x ∧ x.length ≤ 16384) (less : Nat) (h1 : 1 ≤ less) (h2 : less ≤ lastLen ls) :
    cutOf ((sealAll ls).take ((sealAll ls).length - less)) = (ls.take (ls.length - 1), (sealAll ls).length - lastLen ls, if less = lastLen ls then 0 else 10) := by
  unfold lastLen at h2 ⊢
  cases hg : ls.getLast? with
  | none => rw [hg] at h2; simp at h2; omega
  | some x =>
    rw [hg] at h2
    have h2 : less ≤ 8 + x.length := h2
    obtain ⟨ys, rfl⟩ := List.getLast?_eq_some_iff.1 hg
    have hx := h x (by simp)
    have hy : ∀ z ∈ ys, isB z ∧ z.length ≤ 16384 := fun z hz => h z (by simp [hz])
    have e1 : (sealAll (ys ++ [x])).take ((sealAll (ys ++ [x])).length - less) = sealAll ys ++ (sealOf x).take (8 + x.length - less) := by
      rw [sealAll_snoc, List.length_append, sealOf_len, List.take_append, List.take_of_length_le (by omega)]
      congr 2
      omega
    have e2 : (ys ++ [x]).take ((ys ++ [x]).length - 1) = ys := by simp
    have e3 : (sealAll (ys ++ [x])).length - (8 + x.length) = (sealAll ys).length := by rw [sealAll_snoc, List.length_append, sealOf_len]; omega
    rw [e1, e2]
    show cutOf _ = (ys, (sealAll (ys ++ [x])).length - (8 + x.length), if less = 8 + x.length then 0 else 10)
    rw [e3, cutOf_sealAll ys _ hy]
    by_cases he : less = 8 + x.length
    · rw [if_pos he, he, Nat.sub_self, List.take_zero, cutOf_nil]
      simp
    · rw [if_neg he, cutOf_short x hx.1 hx.2 (8 + x.length - less) (by omega) (by omega)]
      simp
set_option maxHeartbeats 3200000 in
set_option maxRecDepth 100000 in
theorem frameBack_ok (A : Option Addr) (n ca : Nat) (ls : List (List Int)) (less : Int) (w : World) (hA : (Kd.slice 5 (Kd.int .u8)).C w A n ls) (hca : n ≤ ca) (hb : ∀ x ∈ ls, isB x) (hU : bulkL ls ≤ 1048576) (hl1 : -9223372036854775808 ≤ less) (hl2 : less ≤ 9223372036854775807) :
    Calls Try.prog 12 #[.slice A n ca, .int .i64 less] w fun e w' => e = .returned (.bool true) ∧ Below w.heap.size w w' := by
  have HA := Aside0.mk hA
  have HL := Aside0.mk hA.1
  have HB := Aside0.mk hb
  have HU := Aside0.mk hU
  have hm := hA.2.1
  clear hA hb hU
  go_enter Try.func12, Try.ntmps12
  go_wp2_with fail
  refine (fawake_ok (Hw.start w)).mono ?_
  rintro e w1 ⟨rfl, h1⟩
  have H1 := Aside0.mk h1
  clear h1
  go_wp2_with fail
  go_loopw [19, 5, 6, 7] (fun i v5 v6 v7 wr => ∃ (k n5 m6 last : Nat) (A5 : Option Addr) (c5 : Nat) (A6 : Option Addr) (c6 : Nat), k ≤ n ∧ n5 ≤ 8388608 ∧ m6 ≤ 1048576 ∧ last ≤ n5 ∧ i = .int .i64 k ∧ v5 = .slice A5 n5 c5 ∧ v6 = .slice A6 m6 c6 ∧ v7 = .int .i64 last ∧
    Aside0 (last = lastLen (fits (ls.take k))) ∧ Aside0 (m6 = (fits (ls.take k)).length) ∧ Aside0 (n5 = (sealAll (fits (ls.take k))).length) ∧ Aside0 (Hw w wr (row (Kd.int .u8) 5 (.slice A5 n5 c5) (sealAll (fits (ls.take k))) * (row Kd.string 9 (.slice A6 m6 c6) ((fits (ls.take k)).map strOfNums) * HP.emp)))) (fun i _ _ _ _ => n - (intOf i).toNat)
  case atStart => exact ⟨0, 0, 0, 0, none, 0, none, 0, Nat.zero_le _, by omega, by omega, Nat.le_refl _, rfl, rfl, rfl, rfl, ⟨rfl⟩, ⟨rfl⟩, ⟨rfl⟩, ⟨(H1.out.row_nil Kd.string 9).row_nil (Kd.int .u8) 5⟩⟩
  case round =>
    obtain ⟨k, n5, m6, last, A5, c5, A6, c6, hk, hn5, hm6, hlast, rfl, rfl, rfl, rfl, HLast, HM, HN, HW⟩ := hrel
    clear H1
    by_cases hlt : k < n
    · obtain ⟨ad, A', c', x, rfl, hcell, hxc, hx, hxC⟩ := C_row_at HA.out k hlt
      have hcell2 := pw_cell_below HW.out.below hcell
      have hts := take_snoc_of hx.out
      have hbx := sealAll_bulk (ls.take (k + 1))
      have hbt := bulkL_take ls (k + 1)
      have hbu := HU.out
      obtain ⟨nx, hnx⟩ : ∃ nx, nx = x.length := ⟨_, rfl⟩
      rw [← hnx] at hcell2 hxc
      have NX := Aside0.mk hnx
      have HXC := Aside0.mk (show (Kd.int .u8).C w A' nx x by rw [hnx]; exact hxC.out)
      clear hcell hxC
      by_cases hfit : nx ≤ 16384
      · rw [hts] at hbt
        rw [hts, fits_snoc_in _ _ (by rw [← hnx]; exact hfit)] at hbx
        have hb1 : (sealAll (fits (ls.take k) ++ [x])).length ≤ 8388608 := by omega
        have hb2 : (fits (ls.take k) ++ [x]).length ≤ 1048576 := by omega
        rw [sealAll_snoc, List.length_append, sealOf_len, ← HN.out, ← hnx] at hb1
        rw [List.length_append, ← HM.out] at hb2
        have hb2' : m6 + 1 ≤ 1048576 := hb2
        have TS := Aside0.mk (show fits (ls.take (k + 1)) = fits (ls.take k) ++ [x] by rw [hts, fits_snoc_in _ _ (by rw [← hnx]; exact hfit)])
        clear hts hbx hbt hbu hnx hb2
        go_wp2_with fail
        refine (fseal_ok A' nx c' x hfit hxc HW.out (Ent.of_old HXC.out)).mono ?_
        rintro e w2 ⟨A2, n2, c2, rfl, h2⟩
        have hn2 : n2 = nx + 8 := by have := h2.row_C.1; rw [this, sealOf_len, ← NX.out, Nat.add_comm]
        subst hn2
        have C2 := Aside0.mk h2.row_C.2.2
        have H2 := Aside0.mk (h2.atR (Kd.int .u8) 5 (.slice A5 n5 c5))
        obtain ⟨s, hs⟩ : ∃ s, s = strOfNums x := ⟨_, rfl⟩
        have cp : ∀ W, Below w.heap.size w W → (convert 31 9 (.slice A' nx c')).run Try.prog W = .ok (.string s) W := fun W hW => by rw [hs]; exact Kd.C_string Try.underlying31 Try.underlying5 Try.underlying9 (Kd.C_below HXC.out hW)
        have CP := Aside0.mk cp
        have TZ := Aside0.mk (show (fits (ls.take k)).map strOfNums ++ [s] = (fits (ls.take (k + 1))).map strOfNums by rw [TS.out, List.map_append, hs]; rfl)
        have TY := Aside0.mk (show sealAll (fits (ls.take k)) ++ sealOf x = sealAll (fits (ls.take (k + 1))) by rw [TS.out, sealAll_snoc])
        have hlen : (sealAll (fits (ls.take (k + 1)))).length = n5 + (nx + 8) := by rw [← TY.out, List.length_append, sealOf_len, ← HN.out, ← NX.out]; omega
        have TL := Aside0.mk hlen
        clear h2 HW hs cp hlen
        go_wp2_with (first | (at_builtin; refine Hw.append_int (k := .u8) rfl (.tmp 40) (.tmp 41) 31 5 1 rfl Try.underlying31 Try.finfoU8 (by decide) _ (sealAll (fits (ls.take k))) (sealOf x) A2 (nx + 8) c2 rfl rfl H2.out C2.out (by rw [← HN.out]; omega) _ TY.out (n5 + (nx + 8)) TL.out ?_; intro A7 c7 w7 H7; have hcv := CP.out w7 H7.out.below; have H8 := Aside0.mk (((H7.out.dropR (Kd.int .u8) 5 (.slice A2 (nx + 8) c2)).atR Kd.string 9 (.slice A6 m6 c6)))) |
          (at_builtin; refine Hw.append_str rfl (.tmp 43) (.tmp 46) 22 9 rfl Try.underlying22 Try.finfoStr A6 m6 c6 _ s rfl rfl H8.out (by omega) _ TZ.out ?_; intro A9 c9 w9 H9))
        go_roundw
        case rel => exact ⟨k + 1, n5 + (nx + 8), m6 + 1, nx + 8, A7, c7, A9, c9, by omega, by omega, by omega, by omega, by go_num, rfl, rfl, by first | rfl | go_num, ⟨by rw [TS.out, lastLen_snoc, ← NX.out, Nat.add_comm]⟩, ⟨by rw [TS.out, List.length_append, ← HM.out]; rfl⟩, ⟨TL.out.symm⟩, ⟨H9.out.atR (Kd.int .u8) 5 (.slice A7 (n5 + (nx + 8)) c7)⟩⟩
        case measure => simp [intOf]; omega
      · have TS := Aside0.mk (show fits (ls.take (k + 1)) = fits (ls.take k) by rw [hts, fits_snoc_out _ _ (by rw [← hnx]; omega)])
        have d1 : decide ((nx : Int) ≤ 16384) = false := decide_eq_false (by omega)
        have d1' : decide (nx ≤ 16384) = false := decide_eq_false (by omega)
        clear hts hbx hbt hbu hnx
        go_wp2_with fail
        refine (fseal_long A' nx c' (by omega)).mono ?_
        rintro e w2 ⟨rfl, rfl⟩
        go_wp2_with fail
        go_roundw
        case rel => exact ⟨k + 1, n5, m6, last, A5, c5, A6, c6, by omega, hn5, hm6, hlast, by go_num, rfl, rfl, rfl, ⟨by rw [TS.out]; exact HLast.out⟩, ⟨by rw [TS.out]; exact HM.out⟩, ⟨by rw [TS.out]; exact HN.out⟩, ⟨by rw [TS.out]; exact HW.out⟩⟩
        case measure => simp [intOf]; omega
    · have hkn : k = n := by omega
      subst hkn
      have et : ls.take k = ls := List.take_of_length_le (by rw [HL.out]; exact Nat.le_refl _)
      rw [et] at HLast HM HN HW
      obtain ⟨fl, hfl⟩ : ∃ fl, fl = fits ls := ⟨_, rfl⟩
      have hall : ∀ x ∈ fl, isB x ∧ x.length ≤ 16384 := by
        intro x hx
        rw [hfl] at hx
        have := List.mem_filter.1 hx
        exact ⟨HB.out x this.1, by simpa using this.2⟩
      rw [← hfl] at HLast HM HN HW
      have ALL := Aside0.mk hall
      have hbb := sealAll_isB fl (fun x hx => (hall x hx).1)
      have BB := Aside0.mk hbb
      clear et hfl hall hbb
      go_wp2_with fail
      refine (fcut_ok A5 n5 c5 (sealAll fl) (by omega) HW.out.row_C.2.1 HW.out (Ent.of_row (e := 5) (c := c5)) BB.out).mono ?_
      have hcs := cutOf_sealAll fl [] ALL.out
      rw [List.append_nil, cutOf_nil, ← HN.out] at hcs
      have hcs : cutOf (sealAll fl) = (fl, n5, 0) := by rw [hcs]; simp
      rw [hcs]
      clear hcs
      rintro e w2 ⟨A7, n7, c7, hs7, rfl, h7⟩
      have H7 := Aside0.mk (rowss_mk h7)
      have hn7 : n7 = m6 := by rw [HM.out]; exact (rowss_C H7.out).1
      subst hn7
      clear h7
      go_wp2_with fail
      refine (ftexts_ok A7 n7 c7 fl (by omega) H7.out (Ent.of_rowss 31 c7)).mono ?_
      rintro e w8 ⟨A8, c8, rfl, h8⟩
      have C8 := Aside0.mk h8.row_C.2.2
      have C6 := Aside0.mk (h8.atR Kd.string 9 (.slice A6 n7 c6)).row_C.2.2
      have H8 := Aside0.mk h8
      clear h8 H7 HW
      go_wp2_with fail
      refine (fsame_ok A8 A6 n7 c8 c6 (fl.map strOfNums) C8.out C6.out).mono ?_
      rintro e w9 ⟨rfl, hd⟩
      have H9 := Aside0.mk (H8.out.drawn hd)
      clear hd C8 C6 H8
      by_cases hr1 : less < 1
      · have d1 : decide (less < 1) = true := decide_eq_true hr1
        go_wp2_with fail
        go_ret
        exact ⟨rfl, H9.out.below⟩
      · have d1 : decide (less < 1) = false := decide_eq_false hr1
        by_cases hr2 : (last : Int) < less
        · have d2 : decide ((last : Int) < less) = true := decide_eq_true hr2
          go_wp2_with fail
          go_ret
          exact ⟨rfl, H9.out.below⟩
        · have d2 : decide ((last : Int) < less) = false := decide_eq_false hr2
          have hn7 : n7 ≠ 0 := by
            intro h0
            have h1 := HM.out
            rw [h0] at h1
            have : fl = [] := List.eq_nil_of_length_eq_zero h1.symm
            have h2 := HLast.out
            rw [this] at h2
            have h2 : last = 0 := h2
            omega
          obtain ⟨b, rfl⟩ : ∃ b : Nat, less = b := ⟨less.toNat, by omega⟩
          have d3 : ((n7 : Int) == 0) = false := beq_eq_false_iff_ne.2 (by omega)
          obtain ⟨d, hd⟩ : ∃ d, d = n5 - b := ⟨_, rfl⟩
          obtain ⟨q, hq⟩ : ∃ q, q = n5 - last := ⟨_, rfl⟩
          obtain ⟨inf, hinf, hiz0, hiz1, hiz2⟩ := info_parts Try.finfoU8
          obtain ⟨hcut, hC⟩ := sl_take (Kd.int .u8) 31 5 Try.underlying31 hinf A5 n5 c5 ((n5 : Int) - b) d (by omega) (by omega) (H9.out.atR (Kd.int .u8) 5 (.slice A5 n5 c5)).row_C.2.1
          have HC := Aside0.mk hC
          have hb1 : 1 ≤ b := by omega
          have hb2 : b ≤ last := by omega
          have hc5 := (H9.out.atR (Kd.int .u8) 5 (.slice A5 n5 c5)).row_C.2.1
          have hd5 : d ≤ n5 := by omega
          have D := Aside0.mk hd
          have QQ := Aside0.mk hq
          clear hC hd hq hiz0 hiz1 hiz2 hinf
          go_wp2_with fail
          refine (fcut_ok A5 d c5 ((sealAll fl).take d) (by omega) (by omega) H9.out (fun w' hw => HC.out _ _ (hw.atR (Kd.int .u8) 5 (.slice A5 n5 c5)).row_C.2.2) (fun x hx => BB.out x (List.mem_of_mem_take hx))).mono ?_
          have hcs := cut_less fl ALL.out b hb1 (by rw [← HLast.out]; exact hb2)
          rw [← HN.out, ← HM.out, ← HLast.out, ← D.out, ← QQ.out] at hcs
          rw [hcs]
          clear hcs
          rintro e w10 ⟨A10, n10, c10, hs10, rfl, h10⟩
          have H10 := Aside0.mk (rowss_mk h10)
          have hn10 : n10 = n7 - 1 := by rw [(rowss_C H10.out).1]; show (fl.take (n7 - 1)).length = _; rw [List.length_take, ← HM.out]; omega
          subst hn10
          clear h10 hcut H9
          obtain ⟨infs, hinfs, hsz0, hsz1, hsz2⟩ := info_parts Try.finfoStr
          have hc6 := (H10.out.atR Kd.string 9 (.slice A6 n7 c6)).row_C.2.1
          obtain ⟨hcutS, hCS⟩ := sl_take Kd.string 22 9 Try.underlying22 hinfs A6 n7 c6 ((n7 : Int) - 1) (n7 - 1) (by omega) (by omega) hc6
          have HCS := Aside0.mk hCS
          have e97 : IntKind.i64.wrap ((n5 : Int) - last) = q := by rw [IntKind.wrap_i64]; have := QQ.out; omega
          have e97' : wrap64 ((n5 : Int) - last) = q := by have := QQ.out; unfold wrap64; omega
          have e105 : IntKind.i64.wrap ((n7 : Int) - 1) = (n7 : Int) - 1 := by rw [IntKind.wrap_i64]; omega
          have e105' : wrap64 ((n7 : Int) - 1) = (n7 : Int) - 1 := by unfold wrap64; omega
          clear hCS hsz0 hsz1 hsz2 hinfs d1 d2 d3 hr1 hr2
          by_cases hbl : b = last
          · subst hbl
            rw [show (if b = b then (0 : Int) else 10) = 0 from if_pos rfl]
            go_upto_region 23 with fail
            refine start_ (n := 35) (S := fun w' => True) (ds := []) #[false, false, false, false, false, false, false, false, false, false, false, false, false, false, false, false, false, false, false, false, false, false, false, false, false, false, false, false, false, false, false, false, false, false, false] (by kernel_rfl) rfl rfl trivial (fun hHeld => ?_)
            refine pure_ (i := 0) (N := some 93) (v := ?_) (a' := ?_) #[true, false, false, false, false, false, false, false, false, false, false, false, false, false, false, false, false, false, false, false, false, false, false, false, false, false, false, false, false, false, false, false, false, false, false] rfl rfl (by kernel_rfl) (fun _ _ _ h => h) (Or.inl ⟨by rfl, ?_⟩) ?_ ?_
            rotate_left
            · intro w'
              go_simp
              with_reducible rfl
            rotate_left
            · simp only [Act.put, List.setIfInBounds_toArray, List.set_cons_zero, List.set_cons_succ, i64_w, i32_w]
              rfl
            refine pure_ (i := 1) (N := some 94) (v := ?_) (a' := ?_) #[true, true, false, false, false, false, false, false, false, false, false, false, false, false, false, false, false, false, false, false, false, false, false, false, false, false, false, false, false, false, false, false, false, false, false] rfl rfl (by kernel_rfl) (fun _ _ _ h => h) (Or.inl ⟨by rfl, ?_⟩) ?_ ?_
            rotate_left
            · intro w'
              go_simp
              with_reducible rfl
            rotate_left
            · simp only [Act.put, List.setIfInBounds_toArray, List.set_cons_zero, List.set_cons_succ, i64_w, i32_w]
              rfl
            refine pure_ (i := 2) (N := some 95) (v := ?_) (a' := ?_) #[true, true, true, false, false, false, false, false, false, false, false, false, false, false, false, false, false, false, false, false, false, false, false, false, false, false, false, false, false, false, false, false, false, false, false] rfl rfl (by kernel_rfl) (fun _ _ _ h => h) (Or.inl ⟨by rfl, ?_⟩) ?_ ?_
            rotate_left
            · intro w'
              go_simp
              with_reducible rfl
            rotate_left
            · simp only [Act.put, List.setIfInBounds_toArray, List.set_cons_zero, List.set_cons_succ, i64_w, i32_w]
              rfl
            refine pure_ (i := 3) (N := some 96) (v := ?_) (a' := ?_) #[true, true, true, true, false, false, false, false, false, false, false, false, false, false, false, false, false, false, false, false, false, false, false, false, false, false, false, false, false, false, false, false, false, false, false] rfl rfl (by kernel_rfl) (fun _ _ _ h => h) (Or.inl ⟨by rfl, ?_⟩) ?_ ?_
            rotate_left
            · intro w'
              go_simp
              with_reducible rfl
            rotate_left
            · simp only [Act.put, List.setIfInBounds_toArray, List.set_cons_zero, List.set_cons_succ, i64_w, i32_w]
              rfl
            refine pure_ (i := 4) (N := some 97) (v := ?_) (a' := ?_) #[true, true, true, true, true, false, false, false, false, false, false, false, false, false, false, false, false, false, false, false, false, false, false, false, false, false, false, false, false, false, false, false, false, false, false] rfl rfl (by kernel_rfl) (fun _ _ _ h => h) (Or.inl ⟨by rfl, ?_⟩) ?_ ?_
            rotate_left
            · intro w'
              go_simp
              with_reducible rfl
            rotate_left
            · simp only [Act.put, List.setIfInBounds_toArray, List.set_cons_zero, List.set_cons_succ, i64_w, i32_w]
              rfl
            refine pure_ (i := 5) (N := some 98) (v := ?_) (a' := ?_) #[true, true, true, true, true, true, false, false, false, false, false, false, false, false, false, false, false, false, false, false, false, false, false, false, false, false, false, false, false, false, false, false, false, false, false] rfl rfl (by kernel_rfl) (fun _ _ _ h => h) (Or.inl ⟨by rfl, ?_⟩) ?_ ?_
            rotate_left
            · intro w'
              go_simp
              with_reducible rfl
            rotate_left
            · simp only [Act.put, List.setIfInBounds_toArray, List.set_cons_zero, List.set_cons_succ, i64_w, i32_w]
              rfl
            refine pure_ (i := 6) (N := some 99) (v := ?_) (a' := ?_) #[true, true, true, true, true, true, true, false, false, false, false, false, false, false, false, false, false, false, false, false, false, false, false, false, false, false, false, false, false, false, false, false, false, false, false] rfl rfl (by kernel_rfl) (fun _ _ _ h => h) (Or.inl ⟨by rfl, ?_⟩) ?_ ?_
            rotate_left
            · intro w'
              go_simp
              with_reducible rfl
            rotate_left
            · simp only [Act.put, List.setIfInBounds_toArray, List.set_cons_zero, List.set_cons_succ, i64_w, i32_w]
              rfl
            refine pure_ (i := 7) (N := some 100) (v := ?_) (a' := ?_) #[true, true, true, true, true, true, true, true, false, false, false, false, false, false, false, false, false, false, false, false, false, false, false, false, false, false, false, false, false, false, false, false, false, false, false] rfl rfl (by kernel_rfl) (fun _ _ _ h => h) (Or.inl ⟨by rfl, ?_⟩) ?_ ?_
            rotate_left
            · intro w'
              go_simp
              with_reducible rfl
            rotate_left
            · simp only [Act.put, List.setIfInBounds_toArray, List.set_cons_zero, List.set_cons_succ, i64_w, i32_w]
              rfl
            refine pure_ (i := 9) (N := some 102) (v := ?_) (a' := ?_) #[true, true, true, true, true, true, true, true, false, true, false, false, false, false, false, false, false, false, false, false, false, false, false, false, false, false, false, false, false, false, false, false, false, false, false] rfl rfl (by kernel_rfl) (fun _ _ _ h => h) (Or.inl ⟨by rfl, ?_⟩) ?_ ?_
            rotate_left
            · intro w'
              go_simp
              with_reducible rfl
            rotate_left
            · simp only [Act.put, List.setIfInBounds_toArray, List.set_cons_zero, List.set_cons_succ, i64_w, i32_w]
              rfl
            refine pure_ (i := 10) (N := some 103) (v := ?_) (a' := ?_) #[true, true, true, true, true, true, true, true, false, true, true, false, false, false, false, false, false, false, false, false, false, false, false, false, false, false, false, false, false, false, false, false, false, false, false] rfl rfl (by kernel_rfl) (fun _ _ _ h => h) (Or.inl ⟨by rfl, ?_⟩) ?_ ?_
            rotate_left
            · intro w'
              go_simp
              with_reducible rfl
            rotate_left
            · simp only [Act.put, List.setIfInBounds_toArray, List.set_cons_zero, List.set_cons_succ, i64_w, i32_w]
              rfl
            refine pure_ (i := 11) (N := some 104) (v := ?_) (a' := ?_) #[true, true, true, true, true, true, true, true, false, true, true, true, false, false, false, false, false, false, false, false, false, false, false, false, false, false, false, false, false, false, false, false, false, false, false] rfl rfl (by kernel_rfl) (fun _ _ _ h => h) (Or.inl ⟨by rfl, ?_⟩) ?_ ?_
            rotate_left
            · intro w'
              go_simp
              with_reducible rfl
            rotate_left
            · simp only [Act.put, List.setIfInBounds_toArray, List.set_cons_zero, List.set_cons_succ, i64_w, i32_w]
              rfl
            refine pure_ (i := 12) (N := some 105) (v := ?_) (a' := ?_) #[true, true, true, true, true, true, true, true, false, true, true, true, true, false, false, false, false, false, false, false, false, false, false, false, false, false, false, false, false, false, false, false, false, false, false] rfl rfl (by kernel_rfl) (fun _ _ _ h => h) (Or.inl ⟨by rfl, ?_⟩) ?_ ?_
            rotate_left
            · intro w'
              go_simp
              with_reducible rfl
            rotate_left
            · simp only [Act.put, List.setIfInBounds_toArray, List.set_cons_zero, List.set_cons_succ, i64_w, i32_w]
              rfl
            refine pure_ (i := 13) (N := some 106) (v := ?_) (a' := ?_) #[true, true, true, true, true, true, true, true, false, true, true, true, true, true, false, false, false, false, false, false, false, false, false, false, false, false, false, false, false, false, false, false, false, false, false] rfl rfl (by kernel_rfl) (fun _ _ _ h => h) (Or.inl ⟨by rfl, ?_⟩) ?_ ?_
            rotate_left
            · intro w'
              go_simp
              with_reducible rfl
            rotate_left
            · simp only [Act.put, List.setIfInBounds_toArray, List.set_cons_zero, List.set_cons_succ, i64_w, i32_w]
              rfl
            refine one_ (i := 8) (N := some 101) #[true, true, true, true, true, true, true, true, true, true, true, true, true, true, false, false, false, false, false, false, false, false, false, false, false, false, false, false, false, false, false, false, false, false, false] rfl rfl (by kernel_rfl) (by decide) (fun K hK => ?_)
            refine goes_ Try.func34 (by kernel_rfl) rfl #[.slice A10 (n7 - 1) c10] (by rfl) rfl rfl (by simp only [List.map_toArray, List.map_cons, List.map_nil]; rfl) ?_
            with_reducible refine (ftexts_ok A10 (n7 - 1) c10 (fl.take (n7 - 1)) (by omega) H10.out.drew (Ent.of_rowss 31 c10)).mono ?_
            rintro e w11 ⟨A11, c11, rfl, h11⟩
            refine ⟨_, rfl, ?_⟩
            have C11 := Aside0.mk h11.row_C.2.2
            have hC6 := HCS.out _ _ (h11.atR Kd.string 9 (.slice A6 n7 c6)).row_C.2.2
            rw [← List.map_take] at hC6
            have C6 := Aside0.mk hC6
            have H11 := Aside0.mk h11
            clear hC6 h11
            refine hK.out _ _ trivial (fun hHeld => ?_)
            clear hK K
            refine norm_ (a' := ?_) ?_ ?_
            rotate_left
            · show Act.put _ (some 101) _ = _
              simp only [Act.put, List.setIfInBounds_toArray, List.set_cons_zero, List.set_cons_succ, i64_w, i32_w]
              rfl
            refine one_ (i := 14) (N := some 107) #[true, true, true, true, true, true, true, true, true, true, true, true, true, true, true, false, false, false, false, false, false, false, false, false, false, false, false, false, false, false, false, false, false, false, false] rfl rfl (by kernel_rfl) (by decide) (fun K hK => ?_)
            refine goes_ Try.func33 (by kernel_rfl) rfl #[.slice A11 (n7 - 1) c11, .slice A6 (n7 - 1) c6] (by rfl) rfl rfl (by simp only [List.map_toArray, List.map_cons, List.map_nil]; rfl) ?_
            with_reducible refine (fsame_ok A11 A6 (n7 - 1) c11 c6 ((fl.take (n7 - 1)).map strOfNums) C11.out C6.out).mono ?_
            rintro e w12 ⟨rfl, hd⟩
            refine ⟨_, rfl, ?_⟩
            have H12 := Aside0.mk (H11.out.drawn hd)
            clear hd
            refine hK.out _ _ trivial (fun hHeld => ?_)
            clear hK K
            refine norm_ (a' := ?_) ?_ ?_
            rotate_left
            · show Act.put _ (some 107) _ = _
              simp only [Act.put, List.setIfInBounds_toArray, List.set_cons_zero, List.set_cons_succ, i64_w, i32_w]
              rfl
            refine pure_ (i := 15) (N := some 108) (v := ?_) (a' := ?_) #[true, true, true, true, true, true, true, true, true, true, true, true, true, true, true, true, false, false, false, false, false, false, false, false, false, false, false, false, false, false, false, false, false, false, false] rfl rfl (by kernel_rfl) (fun _ _ _ h => h) (Or.inl ⟨by rfl, ?_⟩) ?_ ?_
            rotate_left
            · intro w'
              go_simp
              with_reducible rfl
            rotate_left
            · simp only [Act.put, List.setIfInBounds_toArray, List.set_cons_zero, List.set_cons_succ, i64_w, i32_w]
              rfl
            refine pure_ (i := 16) (N := some 109) (v := ?_) (a' := ?_) #[true, true, true, true, true, true, true, true, true, true, true, true, true, true, true, true, true, false, false, false, false, false, false, false, false, false, false, false, false, false, false, false, false, false, false] rfl rfl (by kernel_rfl) (fun _ _ _ h => h) (Or.inl ⟨by rfl, ?_⟩) ?_ ?_
            rotate_left
            · intro w'
              go_simp
              with_reducible rfl
            rotate_left
            · simp only [Act.put, List.setIfInBounds_toArray, List.set_cons_zero, List.set_cons_succ, i64_w, i32_w]
              rfl
            refine pure_ (i := 17) (N := some 110) (v := ?_) (a' := ?_) #[true, true, true, true, true, true, true, true, true, true, true, true, true, true, true, true, true, true, false, false, false, false, false, false, false, false, false, false, false, false, false, false, false, false, false] rfl rfl (by kernel_rfl) (fun _ _ _ h => h) (Or.inl ⟨by rfl, ?_⟩) ?_ ?_
            rotate_left
            · intro w'
              go_simp
              with_reducible rfl
            rotate_left
            · simp only [Act.put, List.setIfInBounds_toArray, List.set_cons_zero, List.set_cons_succ, i64_w, i32_w]
              rfl
            refine pure_ (i := 18) (N := some 111) (v := ?_) (a' := ?_) #[true, true, true, true, true, true, true, true, true, true, true, true, true, true, true, true, true, true, true, false, false, false, false, false, false, false, false, false, false, false, false, false, false, false, false] rfl rfl (by kernel_rfl) (fun _ _ _ h => h) (Or.inl ⟨by rfl, ?_⟩) ?_ ?_
            rotate_left
            · intro w'
              go_simp
              with_reducible rfl
            rotate_left
            · simp only [Act.put, List.setIfInBounds_toArray, List.set_cons_zero, List.set_cons_succ, i64_w, i32_w]
              rfl
            refine pure_ (i := 19) (N := some 112) (v := ?_) (a' := ?_) #[true, true, true, true, true, true, true, true, true, true, true, true, true, true, true, true, true, true, true, true, false, false, false, false, false, false, false, false, false, false, false, false, false, false, false] rfl rfl (by kernel_rfl) (fun _ _ _ h => h) (Or.inl ⟨by rfl, ?_⟩) ?_ ?_
            rotate_left
            · intro w'
              go_simp
              with_reducible rfl
            rotate_left
            · simp only [Act.put, List.setIfInBounds_toArray, List.set_cons_zero, List.set_cons_succ, i64_w, i32_w]
              rfl
            refine pure_ (i := 20) (N := some 113) (v := undef) (a' := ?_) #[true, true, true, true, true, true, true, true, true, true, true, true, true, true, true, true, true, true, true, true, true, false, false, false, false, false, false, false, false, false, false, false, false, false, false] rfl rfl (by kernel_rfl) (fun _ _ _ h => h) (Or.inr ⟨by rfl, rfl⟩) ?_ ?_
            rotate_left
            · simp only [Act.put, List.setIfInBounds_toArray, List.set_cons_zero, List.set_cons_succ, i64_w, i32_w]
              rfl
            refine pure_ (i := 21) (N := some 114) (v := undef) (a' := ?_) #[true, true, true, true, true, true, true, true, true, true, true, true, true, true, true, true, true, true, true, true, true, true, false, false, false, false, false, false, false, false, false, false, false, false, false] rfl rfl (by kernel_rfl) (fun _ _ _ h => h) (Or.inr ⟨by rfl, rfl⟩) ?_ ?_
            rotate_left
            · simp only [Act.put, List.setIfInBounds_toArray, List.set_cons_zero, List.set_cons_succ, i64_w, i32_w]
              rfl
            refine pure_ (i := 22) (N := some 115) (v := undef) (a' := ?_) #[true, true, true, true, true, true, true, true, true, true, true, true, true, true, true, true, true, true, true, true, true, true, true, false, false, false, false, false, false, false, false, false, false, false, false] rfl rfl (by kernel_rfl) (fun _ _ _ h => h) (Or.inr ⟨by rfl, rfl⟩) ?_ ?_
            rotate_left
            · simp only [Act.put, List.setIfInBounds_toArray, List.set_cons_zero, List.set_cons_succ, i64_w, i32_w]
              rfl
            refine pure_ (i := 23) (N := some 116) (v := ?_) (a' := ?_) #[true, true, true, true, true, true, true, true, true, true, true, true, true, true, true, true, true, true, true, true, true, true, true, true, false, false, false, false, false, false, false, false, false, false, false] rfl rfl (by kernel_rfl) (fun _ _ _ h => h) (Or.inl ⟨by rfl, ?_⟩) ?_ ?_
            rotate_left
            · intro w'
              go_simp
              with_reducible rfl
            rotate_left
            · simp only [Act.put, List.setIfInBounds_toArray, List.set_cons_zero, List.set_cons_succ, i64_w, i32_w]
              rfl
            refine pure_ (i := 24) (N := some 117) (v := ?_) (a' := ?_) #[true, true, true, true, true, true, true, true, true, true, true, true, true, true, true, true, true, true, true, true, true, true, true, true, true, false, false, false, false, false, false, false, false, false, false] rfl rfl (by kernel_rfl) (fun _ _ _ h => h) (Or.inl ⟨by rfl, ?_⟩) ?_ ?_
            rotate_left
            · intro w'
              go_simp
              with_reducible rfl
            rotate_left
            · simp only [Act.put, List.setIfInBounds_toArray, List.set_cons_zero, List.set_cons_succ, i64_w, i32_w]
              rfl
            refine pure_ (i := 25) (N := some 118) (v := ?_) (a' := ?_) #[true, true, true, true, true, true, true, true, true, true, true, true, true, true, true, true, true, true, true, true, true, true, true, true, true, true, false, false, false, false, false, false, false, false, false] rfl rfl (by kernel_rfl) (fun _ _ _ h => h) (Or.inl ⟨by rfl, ?_⟩) ?_ ?_
            rotate_left
            · intro w'
              go_simp
              with_reducible rfl
            rotate_left
            · simp only [Act.put, List.setIfInBounds_toArray, List.set_cons_zero, List.set_cons_succ, i64_w, i32_w]
              rfl
            refine pure_ (i := 26) (N := some 119) (v := ?_) (a' := ?_) #[true, true, true, true, true, true, true, true, true, true, true, true, true, true, true, true, true, true, true, true, true, true, true, true, true, true, true, false, false, false, false, false, false, false, false] rfl rfl (by kernel_rfl) (fun _ _ _ h => h) (Or.inl ⟨by rfl, ?_⟩) ?_ ?_
            rotate_left
            · intro w'
              go_simp
              with_reducible rfl
            rotate_left
            · simp only [Act.put, List.setIfInBounds_toArray, List.set_cons_zero, List.set_cons_succ, i64_w, i32_w]
              rfl
            refine pure_ (i := 27) (N := some 120) (v := ?_) (a' := ?_) #[true, true, true, true, true, true, true, true, true, true, true, true, true, true, true, true, true, true, true, true, true, true, true, true, true, true, true, true, false, false, false, false, false, false, false] rfl rfl (by kernel_rfl) (fun _ _ _ h => h) (Or.inl ⟨by rfl, ?_⟩) ?_ ?_
            rotate_left
            · intro w'
              go_simp
              with_reducible rfl
            rotate_left
            · simp only [Act.put, List.setIfInBounds_toArray, List.set_cons_zero, List.set_cons_succ, i64_w, i32_w]
              rfl
            refine pure_ (i := 28) (N := some 121) (v := ?_) (a' := ?_) #[true, true, true, true, true, true, true, true, true, true, true, true, true, true, true, true, true, true, true, true, true, true, true, true, true, true, true, true, true, false, false, false, false, false, false] rfl rfl (by kernel_rfl) (fun _ _ _ h => h) (Or.inl ⟨by rfl, ?_⟩) ?_ ?_
            rotate_left
            · intro w'
              go_simp
              with_reducible rfl
            rotate_left
            · simp only [Act.put, List.setIfInBounds_toArray, List.set_cons_zero, List.set_cons_succ, i64_w, i32_w]
              rfl
            refine pure_ (i := 29) (N := some 122) (v := ?_) (a' := ?_) #[true, true, true, true, true, true, true, true, true, true, true, true, true, true, true, true, true, true, true, true, true, true, true, true, true, true, true, true, true, true, false, false, false, false, false] rfl rfl (by kernel_rfl) (fun _ _ _ h => h) (Or.inl ⟨by rfl, ?_⟩) ?_ ?_
            rotate_left
            · intro w'
              go_simp
              with_reducible rfl
            rotate_left
            · simp only [Act.put, List.setIfInBounds_toArray, List.set_cons_zero, List.set_cons_succ, i64_w, i32_w]
              rfl
            refine pure_ (i := 30) (N := some 123) (v := ?_) (a' := ?_) #[true, true, true, true, true, true, true, true, true, true, true, true, true, true, true, true, true, true, true, true, true, true, true, true, true, true, true, true, true, true, true, false, false, false, false] rfl rfl (by kernel_rfl) (fun _ _ _ h => h) (Or.inl ⟨by rfl, ?_⟩) ?_ ?_
            rotate_left
            · intro w'
              go_simp
              with_reducible rfl
            rotate_left
            · simp only [Act.put, List.setIfInBounds_toArray, List.set_cons_zero, List.set_cons_succ, i64_w, i32_w]
              rfl
            refine pure_ (i := 31) (N := some 124) (v := ?_) (a' := ?_) #[true, true, true, true, true, true, true, true, true, true, true, true, true, true, true, true, true, true, true, true, true, true, true, true, true, true, true, true, true, true, true, true, false, false, false] rfl rfl (by kernel_rfl) (fun _ _ _ h => h) (Or.inl ⟨by rfl, ?_⟩) ?_ ?_
            rotate_left
            · intro w'
              go_simp
              with_reducible rfl
            rotate_left
            · simp only [Act.put, List.setIfInBounds_toArray, List.set_cons_zero, List.set_cons_succ, i64_w, i32_w]
              rfl
            refine pure_ (i := 32) (N := some 125) (v := ?_) (a' := ?_) #[true, true, true, true, true, true, true, true, true, true, true, true, true, true, true, true, true, true, true, true, true, true, true, true, true, true, true, true, true, true, true, true, true, false, false] rfl rfl (by kernel_rfl) (fun _ _ _ h => h) (Or.inl ⟨by rfl, ?_⟩) ?_ ?_
            rotate_left
            · intro w'
              go_simp
              with_reducible rfl
            rotate_left
            · simp only [Act.put, List.setIfInBounds_toArray, List.set_cons_zero, List.set_cons_succ, i64_w, i32_w]
              rfl
            refine pure_ (i := 33) (N := some 126) (v := ?_) (a' := ?_) #[true, true, true, true, true, true, true, true, true, true, true, true, true, true, true, true, true, true, true, true, true, true, true, true, true, true, true, true, true, true, true, true, true, true, false] rfl rfl (by kernel_rfl) (fun _ _ _ h => h) (Or.inl ⟨by rfl, ?_⟩) ?_ ?_
            rotate_left
            · intro w'
              go_simp
              with_reducible rfl
            rotate_left
            · simp only [Act.put, List.setIfInBounds_toArray, List.set_cons_zero, List.set_cons_succ, i64_w, i32_w]
              rfl
            refine pure_ (i := 34) (N := some 4) (v := ?_) (a' := ?_) #[true, true, true, true, true, true, true, true, true, true, true, true, true, true, true, true, true, true, true, true, true, true, true, true, true, true, true, true, true, true, true, true, true, true, true] rfl rfl (by kernel_rfl) (fun _ _ _ h => h) (Or.inl ⟨by rfl, ?_⟩) ?_ ?_
            rotate_left
            · intro w'
              go_simp
              with_reducible rfl
            rotate_left
            · simp only [Act.put, List.setIfInBounds_toArray, List.set_cons_zero, List.set_cons_succ, i64_w, i32_w]
              rfl
            refine done_ (by kernel_rfl) ?_
            clear hcutS e97 e97' e105 e105'
            go_wp2_with fail
            go_ret
            exact ⟨rfl, H12.out.below⟩
          · rw [show (if b = last then (0 : Int) else 10) = 10 from if_neg hbl]
            have d4 : decide (b < last) = true := decide_eq_true (by omega)
            go_upto_region 23 with fail
            refine start_ (n := 35) (S := fun w' => True) (ds := []) #[false, false, false, false, false, false, false, false, false, false, false, false, false, false, false, false, false, false, false, false, false, false, false, false, false, false, false, false, false, false, false, false, false, false, false] (by kernel_rfl) rfl rfl trivial (fun hHeld => ?_)
            refine pure_ (i := 0) (N := some 93) (v := ?_) (a' := ?_) #[true, false, false, false, false, false, false, false, false, false, false, false, false, false, false, false, false, false, false, false, false, false, false, false, false, false, false, false, false, false, false, false, false, false, false] rfl rfl (by kernel_rfl) (fun _ _ _ h => h) (Or.inl ⟨by rfl, ?_⟩) ?_ ?_
            rotate_left
            · intro w'
              go_simp
              with_reducible rfl
            rotate_left
            · simp only [Act.put, List.setIfInBounds_toArray, List.set_cons_zero, List.set_cons_succ, i64_w, i32_w]
              rfl
            refine pure_ (i := 1) (N := some 94) (v := ?_) (a' := ?_) #[true, true, false, false, false, false, false, false, false, false, false, false, false, false, false, false, false, false, false, false, false, false, false, false, false, false, false, false, false, false, false, false, false, false, false] rfl rfl (by kernel_rfl) (fun _ _ _ h => h) (Or.inl ⟨by rfl, ?_⟩) ?_ ?_
            rotate_left
            · intro w'
              go_simp
              with_reducible rfl
            rotate_left
            · simp only [Act.put, List.setIfInBounds_toArray, List.set_cons_zero, List.set_cons_succ, i64_w, i32_w]
              rfl
            refine pure_ (i := 2) (N := some 95) (v := ?_) (a' := ?_) #[true, true, true, false, false, false, false, false, false, false, false, false, false, false, false, false, false, false, false, false, false, false, false, false, false, false, false, false, false, false, false, false, false, false, false] rfl rfl (by kernel_rfl) (fun _ _ _ h => h) (Or.inl ⟨by rfl, ?_⟩) ?_ ?_
            rotate_left
            · intro w'
              go_simp
              with_reducible rfl
            rotate_left
            · simp only [Act.put, List.setIfInBounds_toArray, List.set_cons_zero, List.set_cons_succ, i64_w, i32_w]
              rfl
            refine pure_ (i := 3) (N := some 96) (v := ?_) (a' := ?_) #[true, true, true, true, false, false, false, false, false, false, false, false, false, false, false, false, false, false, false, false, false, false, false, false, false, false, false, false, false, false, false, false, false, false, false] rfl rfl (by kernel_rfl) (fun _ _ _ h => h) (Or.inl ⟨by rfl, ?_⟩) ?_ ?_
            rotate_left
            · intro w'
              go_simp
              with_reducible rfl
            rotate_left
            · simp only [Act.put, List.setIfInBounds_toArray, List.set_cons_zero, List.set_cons_succ, i64_w, i32_w]
              rfl
            refine pure_ (i := 4) (N := some 97) (v := ?_) (a' := ?_) #[true, true, true, true, true, false, false, false, false, false, false, false, false, false, false, false, false, false, false, false, false, false, false, false, false, false, false, false, false, false, false, false, false, false, false] rfl rfl (by kernel_rfl) (fun _ _ _ h => h) (Or.inl ⟨by rfl, ?_⟩) ?_ ?_
            rotate_left
            · intro w'
              go_simp
              with_reducible rfl
            rotate_left
            · simp only [Act.put, List.setIfInBounds_toArray, List.set_cons_zero, List.set_cons_succ, i64_w, i32_w]
              rfl
            refine pure_ (i := 5) (N := some 98) (v := ?_) (a' := ?_) #[true, true, true, true, true, true, false, false, false, false, false, false, false, false, false, false, false, false, false, false, false, false, false, false, false, false, false, false, false, false, false, false, false, false, false] rfl rfl (by kernel_rfl) (fun _ _ _ h => h) (Or.inl ⟨by rfl, ?_⟩) ?_ ?_
            rotate_left
            · intro w'
              go_simp
              with_reducible rfl
            rotate_left
            · simp only [Act.put, List.setIfInBounds_toArray, List.set_cons_zero, List.set_cons_succ, i64_w, i32_w]
              rfl
            refine pure_ (i := 6) (N := some 99) (v := ?_) (a' := ?_) #[true, true, true, true, true, true, true, false, false, false, false, false, false, false, false, false, false, false, false, false, false, false, false, false, false, false, false, false, false, false, false, false, false, false, false] rfl rfl (by kernel_rfl) (fun _ _ _ h => h) (Or.inl ⟨by rfl, ?_⟩) ?_ ?_
            rotate_left
            · intro w'
              go_simp
              with_reducible rfl
            rotate_left
            · simp only [Act.put, List.setIfInBounds_toArray, List.set_cons_zero, List.set_cons_succ, i64_w, i32_w]
              rfl
            refine pure_ (i := 7) (N := some 100) (v := ?_) (a' := ?_) #[true, true, true, true, true, true, true, true, false, false, false, false, false, false, false, false, false, false, false, false, false, false, false, false, false, false, false, false, false, false, false, false, false, false, false] rfl rfl (by kernel_rfl) (fun _ _ _ h => h) (Or.inl ⟨by rfl, ?_⟩) ?_ ?_
            rotate_left
            · intro w'
              go_simp
              with_reducible rfl
            rotate_left
            · simp only [Act.put, List.setIfInBounds_toArray, List.set_cons_zero, List.set_cons_succ, i64_w, i32_w]
              rfl
            refine pure_ (i := 9) (N := some 102) (v := ?_) (a' := ?_) #[true, true, true, true, true, true, true, true, false, true, false, false, false, false, false, false, false, false, false, false, false, false, false, false, false, false, false, false, false, false, false, false, false, false, false] rfl rfl (by kernel_rfl) (fun _ _ _ h => h) (Or.inl ⟨by rfl, ?_⟩) ?_ ?_
            rotate_left
            · intro w'
              go_simp
              with_reducible rfl
            rotate_left
            · simp only [Act.put, List.setIfInBounds_toArray, List.set_cons_zero, List.set_cons_succ, i64_w, i32_w]
              rfl
            refine pure_ (i := 10) (N := some 103) (v := ?_) (a' := ?_) #[true, true, true, true, true, true, true, true, false, true, true, false, false, false, false, false, false, false, false, false, false, false, false, false, false, false, false, false, false, false, false, false, false, false, false] rfl rfl (by kernel_rfl) (fun _ _ _ h => h) (Or.inl ⟨by rfl, ?_⟩) ?_ ?_
            rotate_left
            · intro w'
              go_simp
              with_reducible rfl
            rotate_left
            · simp only [Act.put, List.setIfInBounds_toArray, List.set_cons_zero, List.set_cons_succ, i64_w, i32_w]
              rfl
            refine pure_ (i := 11) (N := some 104) (v := ?_) (a' := ?_) #[true, true, true, true, true, true, true, true, false, true, true, true, false, false, false, false, false, false, false, false, false, false, false, false, false, false, false, false, false, false, false, false, false, false, false] rfl rfl (by kernel_rfl) (fun _ _ _ h => h) (Or.inl ⟨by rfl, ?_⟩) ?_ ?_
            rotate_left
            · intro w'
              go_simp
              with_reducible rfl
            rotate_left
            · simp only [Act.put, List.setIfInBounds_toArray, List.set_cons_zero, List.set_cons_succ, i64_w, i32_w]
              rfl
            refine pure_ (i := 12) (N := some 105) (v := ?_) (a' := ?_) #[true, true, true, true, true, true, true, true, false, true, true, true, true, false, false, false, false, false, false, false, false, false, false, false, false, false, false, false, false, false, false, false, false, false, false] rfl rfl (by kernel_rfl) (fun _ _ _ h => h) (Or.inl ⟨by rfl, ?_⟩) ?_ ?_
            rotate_left
            · intro w'
              go_simp
              with_reducible rfl
            rotate_left
            · simp only [Act.put, List.setIfInBounds_toArray, List.set_cons_zero, List.set_cons_succ, i64_w, i32_w]
              rfl
            refine pure_ (i := 13) (N := some 106) (v := ?_) (a' := ?_) #[true, true, true, true, true, true, true, true, false, true, true, true, true, true, false, false, false, false, false, false, false, false, false, false, false, false, false, false, false, false, false, false, false, false, false] rfl rfl (by kernel_rfl) (fun _ _ _ h => h) (Or.inl ⟨by rfl, ?_⟩) ?_ ?_
            rotate_left
            · intro w'
              go_simp
              with_reducible rfl
            rotate_left
            · simp only [Act.put, List.setIfInBounds_toArray, List.set_cons_zero, List.set_cons_succ, i64_w, i32_w]
              rfl
            refine one_ (i := 8) (N := some 101) #[true, true, true, true, true, true, true, true, true, true, true, true, true, true, false, false, false, false, false, false, false, false, false, false, false, false, false, false, false, false, false, false, false, false, false] rfl rfl (by kernel_rfl) (by decide) (fun K hK => ?_)
            refine goes_ Try.func34 (by kernel_rfl) rfl #[.slice A10 (n7 - 1) c10] (by rfl) rfl rfl (by simp only [List.map_toArray, List.map_cons, List.map_nil]; rfl) ?_
            with_reducible refine (ftexts_ok A10 (n7 - 1) c10 (fl.take (n7 - 1)) (by omega) H10.out.drew (Ent.of_rowss 31 c10)).mono ?_
            rintro e w11 ⟨A11, c11, rfl, h11⟩
            refine ⟨_, rfl, ?_⟩
            have C11 := Aside0.mk h11.row_C.2.2
            have hC6 := HCS.out _ _ (h11.atR Kd.string 9 (.slice A6 n7 c6)).row_C.2.2
            rw [← List.map_take] at hC6
            have C6 := Aside0.mk hC6
            have H11 := Aside0.mk h11
            clear hC6 h11
            refine hK.out _ _ trivial (fun hHeld => ?_)
            clear hK K
            refine norm_ (a' := ?_) ?_ ?_
            rotate_left
            · show Act.put _ (some 101) _ = _
              simp only [Act.put, List.setIfInBounds_toArray, List.set_cons_zero, List.set_cons_succ, i64_w, i32_w]
              rfl
            refine one_ (i := 14) (N := some 107) #[true, true, true, true, true, true, true, true, true, true, true, true, true, true, true, false, false, false, false, false, false, false, false, false, false, false, false, false, false, false, false, false, false, false, false] rfl rfl (by kernel_rfl) (by decide) (fun K hK => ?_)
            refine goes_ Try.func33 (by kernel_rfl) rfl #[.slice A11 (n7 - 1) c11, .slice A6 (n7 - 1) c6] (by rfl) rfl rfl (by simp only [List.map_toArray, List.map_cons, List.map_nil]; rfl) ?_
            with_reducible refine (fsame_ok A11 A6 (n7 - 1) c11 c6 ((fl.take (n7 - 1)).map strOfNums) C11.out C6.out).mono ?_
            rintro e w12 ⟨rfl, hd⟩
            refine ⟨_, rfl, ?_⟩
            have H12 := Aside0.mk (H11.out.drawn hd)
            clear hd
            refine hK.out _ _ trivial (fun hHeld => ?_)
            clear hK K
            refine norm_ (a' := ?_) ?_ ?_
            rotate_left
            · show Act.put _ (some 107) _ = _
              simp only [Act.put, List.setIfInBounds_toArray, List.set_cons_zero, List.set_cons_succ, i64_w, i32_w]
              rfl
            refine pure_ (i := 15) (N := some 108) (v := ?_) (a' := ?_) #[true, true, true, true, true, true, true, true, true, true, true, true, true, true, true, true, false, false, false, false, false, false, false, false, false, false, false, false, false, false, false, false, false, false, false] rfl rfl (by kernel_rfl) (fun _ _ _ h => h) (Or.inl ⟨by rfl, ?_⟩) ?_ ?_
            rotate_left
            · intro w'
              go_simp
              with_reducible rfl
            rotate_left
            · simp only [Act.put, List.setIfInBounds_toArray, List.set_cons_zero, List.set_cons_succ, i64_w, i32_w]
              rfl
            refine pure_ (i := 16) (N := some 109) (v := ?_) (a' := ?_) #[true, true, true, true, true, true, true, true, true, true, true, true, true, true, true, true, true, false, false, false, false, false, false, false, false, false, false, false, false, false, false, false, false, false, false] rfl rfl (by kernel_rfl) (fun _ _ _ h => h) (Or.inl ⟨by rfl, ?_⟩) ?_ ?_
            rotate_left
            · intro w'
              go_simp
              with_reducible rfl
            rotate_left
            · simp only [Act.put, List.setIfInBounds_toArray, List.set_cons_zero, List.set_cons_succ, i64_w, i32_w]
              rfl
            refine pure_ (i := 17) (N := some 110) (v := ?_) (a' := ?_) #[true, true, true, true, true, true, true, true, true, true, true, true, true, true, true, true, true, true, false, false, false, false, false, false, false, false, false, false, false, false, false, false, false, false, false] rfl rfl (by kernel_rfl) (fun _ _ _ h => h) (Or.inl ⟨by rfl, ?_⟩) ?_ ?_
            rotate_left
            · intro w'
              go_simp
              with_reducible rfl
            rotate_left
            · simp only [Act.put, List.setIfInBounds_toArray, List.set_cons_zero, List.set_cons_succ, i64_w, i32_w]
              rfl
            refine pure_ (i := 18) (N := some 111) (v := ?_) (a' := ?_) #[true, true, true, true, true, true, true, true, true, true, true, true, true, true, true, true, true, true, true, false, false, false, false, false, false, false, false, false, false, false, false, false, false, false, false] rfl rfl (by kernel_rfl) (fun _ _ _ h => h) (Or.inl ⟨by rfl, ?_⟩) ?_ ?_
            rotate_left
            · intro w'
              go_simp
              with_reducible rfl
            rotate_left
            · simp only [Act.put, List.setIfInBounds_toArray, List.set_cons_zero, List.set_cons_succ, i64_w, i32_w]
              rfl
            refine pure_ (i := 19) (N := some 112) (v := ?_) (a' := ?_) #[true, true, true, true, true, true, true, true, true, true, true, true, true, true, true, true, true, true, true, true, false, false, false, false, false, false, false, false, false, false, false, false, false, false, false] rfl rfl (by kernel_rfl) (fun _ _ _ h => h) (Or.inl ⟨by rfl, ?_⟩) ?_ ?_
            rotate_left
            · intro w'
              go_simp
              with_reducible rfl
            rotate_left
            · simp only [Act.put, List.setIfInBounds_toArray, List.set_cons_zero, List.set_cons_succ, i64_w, i32_w]
              rfl
            refine pure_ (i := 20) (N := some 113) (v := ?_) (a' := ?_) #[true, true, true, true, true, true, true, true, true, true, true, true, true, true, true, true, true, true, true, true, true, false, false, false, false, false, false, false, false, false, false, false, false, false, false] rfl rfl (by kernel_rfl) (fun _ _ _ h => h) (Or.inl ⟨by rfl, ?_⟩) ?_ ?_
            rotate_left
            · intro w'
              go_simp
              with_reducible rfl
            rotate_left
            · simp only [Act.put, List.setIfInBounds_toArray, List.set_cons_zero, List.set_cons_succ, i64_w, i32_w]
              rfl
            refine pure_ (i := 21) (N := some 114) (v := ?_) (a' := ?_) #[true, true, true, true, true, true, true, true, true, true, true, true, true, true, true, true, true, true, true, true, true, true, false, false, false, false, false, false, false, false, false, false, false, false, false] rfl rfl (by kernel_rfl) (fun _ _ _ h => h) (Or.inl ⟨by rfl, ?_⟩) ?_ ?_
            rotate_left
            · intro w'
              go_simp
              with_reducible rfl
            rotate_left
            · simp only [Act.put, List.setIfInBounds_toArray, List.set_cons_zero, List.set_cons_succ, i64_w, i32_w]
              rfl
            refine pure_ (i := 22) (N := some 115) (v := ?_) (a' := ?_) #[true, true, true, true, true, true, true, true, true, true, true, true, true, true, true, true, true, true, true, true, true, true, true, false, false, false, false, false, false, false, false, false, false, false, false] rfl rfl (by kernel_rfl) (fun _ _ _ h => h) (Or.inl ⟨by rfl, ?_⟩) ?_ ?_
            rotate_left
            · intro w'
              go_simp
              with_reducible rfl
            rotate_left
            · simp only [Act.put, List.setIfInBounds_toArray, List.set_cons_zero, List.set_cons_succ, i64_w, i32_w]
              rfl
            refine pure_ (i := 23) (N := some 116) (v := ?_) (a' := ?_) #[true, true, true, true, true, true, true, true, true, true, true, true, true, true, true, true, true, true, true, true, true, true, true, true, false, false, false, false, false, false, false, false, false, false, false] rfl rfl (by kernel_rfl) (fun _ _ _ h => h) (Or.inl ⟨by rfl, ?_⟩) ?_ ?_
            rotate_left
            · intro w'
              go_simp
              with_reducible rfl
            rotate_left
            · simp only [Act.put, List.setIfInBounds_toArray, List.set_cons_zero, List.set_cons_succ, i64_w, i32_w]
              rfl
            refine pure_ (i := 24) (N := some 117) (v := ?_) (a' := ?_) #[true, true, true, true, true, true, true, true, true, true, true, true, true, true, true, true, true, true, true, true, true, true, true, true, true, false, false, false, false, false, false, false, false, false, false] rfl rfl (by kernel_rfl) (fun _ _ _ h => h) (Or.inl ⟨by rfl, ?_⟩) ?_ ?_
            rotate_left
            · intro w'
              go_simp
              with_reducible rfl
            rotate_left
            · simp only [Act.put, List.setIfInBounds_toArray, List.set_cons_zero, List.set_cons_succ, i64_w, i32_w]
              rfl
            refine pure_ (i := 25) (N := some 118) (v := undef) (a' := ?_) #[true, true, true, true, true, true, true, true, true, true, true, true, true, true, true, true, true, true, true, true, true, true, true, true, true, true, false, false, false, false, false, false, false, false, false] rfl rfl (by kernel_rfl) (fun _ _ _ h => h) (Or.inr ⟨by rfl, rfl⟩) ?_ ?_
            rotate_left
            · simp only [Act.put, List.setIfInBounds_toArray, List.set_cons_zero, List.set_cons_succ, i64_w, i32_w]
              rfl
            refine pure_ (i := 26) (N := some 119) (v := undef) (a' := ?_) #[true, true, true, true, true, true, true, true, true, true, true, true, true, true, true, true, true, true, true, true, true, true, true, true, true, true, true, false, false, false, false, false, false, false, false] rfl rfl (by kernel_rfl) (fun _ _ _ h => h) (Or.inr ⟨by rfl, rfl⟩) ?_ ?_
            rotate_left
            · simp only [Act.put, List.setIfInBounds_toArray, List.set_cons_zero, List.set_cons_succ, i64_w, i32_w]
              rfl
            refine pure_ (i := 27) (N := some 120) (v := undef) (a' := ?_) #[true, true, true, true, true, true, true, true, true, true, true, true, true, true, true, true, true, true, true, true, true, true, true, true, true, true, true, true, false, false, false, false, false, false, false] rfl rfl (by kernel_rfl) (fun _ _ _ h => h) (Or.inr ⟨by rfl, rfl⟩) ?_ ?_
            rotate_left
            · simp only [Act.put, List.setIfInBounds_toArray, List.set_cons_zero, List.set_cons_succ, i64_w, i32_w]
              rfl
            refine pure_ (i := 28) (N := some 121) (v := undef) (a' := ?_) #[true, true, true, true, true, true, true, true, true, true, true, true, true, true, true, true, true, true, true, true, true, true, true, true, true, true, true, true, true, false, false, false, false, false, false] rfl rfl (by kernel_rfl) (fun _ _ _ h => h) (Or.inr ⟨by rfl, rfl⟩) ?_ ?_
            rotate_left
            · simp only [Act.put, List.setIfInBounds_toArray, List.set_cons_zero, List.set_cons_succ, i64_w, i32_w]
              rfl
            refine pure_ (i := 29) (N := some 122) (v := undef) (a' := ?_) #[true, true, true, true, true, true, true, true, true, true, true, true, true, true, true, true, true, true, true, true, true, true, true, true, true, true, true, true, true, true, false, false, false, false, false] rfl rfl (by kernel_rfl) (fun _ _ _ h => h) (Or.inr ⟨by rfl, rfl⟩) ?_ ?_
            rotate_left
            · simp only [Act.put, List.setIfInBounds_toArray, List.set_cons_zero, List.set_cons_succ, i64_w, i32_w]
              rfl
            refine pure_ (i := 30) (N := some 123) (v := undef) (a' := ?_) #[true, true, true, true, true, true, true, true, true, true, true, true, true, true, true, true, true, true, true, true, true, true, true, true, true, true, true, true, true, true, true, false, false, false, false] rfl rfl (by kernel_rfl) (fun _ _ _ h => h) (Or.inr ⟨by rfl, rfl⟩) ?_ ?_
            rotate_left
            · simp only [Act.put, List.setIfInBounds_toArray, List.set_cons_zero, List.set_cons_succ, i64_w, i32_w]
              rfl
            refine pure_ (i := 31) (N := some 124) (v := undef) (a' := ?_) #[true, true, true, true, true, true, true, true, true, true, true, true, true, true, true, true, true, true, true, true, true, true, true, true, true, true, true, true, true, true, true, true, false, false, false] rfl rfl (by kernel_rfl) (fun _ _ _ h => h) (Or.inr ⟨by rfl, rfl⟩) ?_ ?_
            rotate_left
            · simp only [Act.put, List.setIfInBounds_toArray, List.set_cons_zero, List.set_cons_succ, i64_w, i32_w]
              rfl
            refine pure_ (i := 32) (N := some 125) (v := ?_) (a' := ?_) #[true, true, true, true, true, true, true, true, true, true, true, true, true, true, true, true, true, true, true, true, true, true, true, true, true, true, true, true, true, true, true, true, true, false, false] rfl rfl (by kernel_rfl) (fun _ _ _ h => h) (Or.inl ⟨by rfl, ?_⟩) ?_ ?_
            rotate_left
            · intro w'
              go_simp
              with_reducible rfl
            rotate_left
            · simp only [Act.put, List.setIfInBounds_toArray, List.set_cons_zero, List.set_cons_succ, i64_w, i32_w]
              rfl
            refine pure_ (i := 33) (N := some 126) (v := ?_) (a' := ?_) #[true, true, true, true, true, true, true, true, true, true, true, true, true, true, true, true, true, true, true, true, true, true, true, true, true, true, true, true, true, true, true, true, true, true, false] rfl rfl (by kernel_rfl) (fun _ _ _ h => h) (Or.inl ⟨by rfl, ?_⟩) ?_ ?_
            rotate_left
            · intro w'
              go_simp
              with_reducible rfl
            rotate_left
            · simp only [Act.put, List.setIfInBounds_toArray, List.set_cons_zero, List.set_cons_succ, i64_w, i32_w]
              rfl
            refine pure_ (i := 34) (N := some 4) (v := ?_) (a' := ?_) #[true, true, true, true, true, true, true, true, true, true, true, true, true, true, true, true, true, true, true, true, true, true, true, true, true, true, true, true, true, true, true, true, true, true, true] rfl rfl (by kernel_rfl) (fun _ _ _ h => h) (Or.inl ⟨by rfl, ?_⟩) ?_ ?_
            rotate_left
            · intro w'
              go_simp
              with_reducible rfl
            rotate_left
            · simp only [Act.put, List.setIfInBounds_toArray, List.set_cons_zero, List.set_cons_succ, i64_w, i32_w]
              rfl
            refine done_ (by kernel_rfl) ?_
            clear hcutS e97 e97' e105 e105' d4
            go_wp2_with fail
            go_ret
            exact ⟨rfl, H12.out.below⟩
theorem isB_of_wf4 {xs : List Int} (h : ∀ x ∈ xs, (Lit.int .u8 x).wf = true) : isB xs := by
  intro x hx
  have := h x hx
  simp [Lit.wf] at this
  first | omega | (simp [IntKind.min, IntKind.max, IntKind.bits, IntKind.signed] at this; omega)
theorem frameBackUpto_walk (A : Option Addr) (ca : Nat) (ls : List (List Int)) (less : Int) (w : World) (hA : (Kd.slice 5 (Kd.int .u8)).C w A ls.length ls) (hca : ls.length ≤ ca)
    (sa : ls.length * 24 ≤ 140737488351232 ∧ ∀ x ∈ ls, x.length * 1 ≤ 140737488351232 ∧ ∀ y ∈ x, (Lit.int .u8 y).wf = true) (hl : (Lit.int .i64 less).wf = true) (hU : (ls.map fun xs => (xs.map fun _ => 1).sum + 1).sum + 1 ≤ 1048576) :
    Calls Try.prog 12 #[.slice A ls.length ca, .int .i64 less] w fun e w' => e = .returned (.bool true) ∧ Below w.heap.size w w' := by
  have ht2 : -9223372036854775808 ≤ less ∧ less ≤ 9223372036854775807 := by
    simp [Lit.wf] at hl
    first | omega | (simp [IntKind.min, IntKind.max, IntKind.bits, IntKind.signed] at hl; omega)
  exact frameBack_ok A _ ca ls less w hA hca (fun x hx => isB_of_wf4 (sa.2 x hx).2) (by unfold bulkL; omega) ht2.1 ht2.2
end Go.Proofs.Ytehbchggekbkkaa
