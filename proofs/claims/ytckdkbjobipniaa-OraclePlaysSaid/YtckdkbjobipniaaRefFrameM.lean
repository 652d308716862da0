/- The document's frame: Number, Seal, Open, Cut. -/
import Derived.Test.YtckdkbjobipniaaRefFrameL
set_option linter.unusedVariables false
set_option linter.unusedSimpArgs false
namespace Go.Proofs.Ytckdkbjobipniaa
open Go.RowKit Go.Proofs.YtckdkbjobipniaaW.PrintWords Go.Proofs.YtckdkbjobipniaaW.PrintLast
section
variable {w0 w : World} {F : HP}
/-- A number's last k bytes, and what is left of it. -/
def lastB : Nat → Int → List Int
  | 0, _ => []
  | k + 1, n => (n / 256 ^ k % 256) :: lastB k n
theorem lastB_len (k : Nat) (n : Int) : (lastB k n).length = k := by
  induction k with
  | zero => rfl
  | succ k ih => simp [lastB, ih]
theorem lastB_four (n : Int) : lastB 4 n = be4 n := by simp [lastB, be4]
set_option maxHeartbeats 3200000 in
set_option maxRecDepth 100000 in
theorem rnumber_ok (n : Int) (h0 : 0 ≤ n) (h1 : n < 4294967296) (h : Hw w0 w F) :
    Calls Try.prog 127 #[.int .u32 n] w fun e w' => e = .returned (.string (strOfNums (be4 n))) ∧ Hw w0 w' F := by
  have H := Aside0.mk h
  clear h
  go_enter Try.func127, Try.ntmps127
  go_wp2_with fail
  go_loopw [4, 3, 0] (fun i v3 v0 wr => ∃ (k : Nat) (m : Int), k ≤ 4 ∧ i = .int .i64 k ∧ v3 = .string (strOfNums (lastB k n)) ∧ v0 = .int .u32 m ∧ 0 ≤ m ∧ m < 4294967296 ∧ Aside0 (m = n / 256 ^ k) ∧ Aside0 (Hw w0 wr F)) (fun i _ _ _ => 4 - (intOf i).toNat)
  case atStart => exact ⟨0, n, Nat.zero_le _, rfl, rfl, rfl, h0, h1, ⟨by simp⟩, H⟩
  case round =>
    obtain ⟨k, m, hk, rfl, rfl, rfl, hm0, hm1, HM, HW⟩ := hrel
    clear H
    by_cases hlt : k < 4
    · obtain ⟨s0, hs0⟩ : ∃ s0, s0 = strOfNums (lastB k n) := ⟨_, rfl⟩
      rw [← hs0]
      have hz0 : s0.size = k := by rw [hs0, tx_size, lastB_len]
      have h2 := HW.out.alloc (.cells #[.int .u8 (m % 256)] 5)
      have hcv : (convert 28 9 (.slice (some ⟨wr.heap.size, 0, none⟩) 1 1)).run Try.prog (wr.alloc (.cells #[.int .u8 (m % 256)] 5)) = .ok (.string (strOfNums [m % 256])) (wr.alloc (.cells #[.int .u8 (m % 256)] 5)) := Kd.C_string (c := 1) Try.underlying28 Try.underlying5 Try.underlying9 (C_blk (enc := Value.int .u8) (h1 := fun _ => rfl) (xs := [m % 256]) (by simp) h2.blk_at.1)
      obtain ⟨s1, hs1⟩ : ∃ s1, s1 = strOfNums [m % 256] := ⟨_, rfl⟩
      have hz1 : s1.size = 1 := by rw [hs1, tx_size]; rfl
      rw [← hs1] at hcv
      have hcat : s1 ++ s0 = strOfNums (lastB (k + 1) n) := by rw [hs1, hs0, ← tx_append]; show strOfNums (m % 256 :: lastB k n) = _; rw [HM.out]; rfl
      have CAT := Aside0.mk hcat
      have H2 := Aside0.mk h2.right
      have hdiv : m / 256 = n / 256 ^ (k + 1) := by rw [HM.out, Int.pow_succ, Int.ediv_ediv_of_nonneg (Int.pow_nonneg (by decide))]
      have HD := Aside0.mk hdiv
      clear hs0 hs1 h2 HW hcat hdiv
      go_wp2_with fail
      go_roundw
      case rel => exact ⟨k + 1, m / 256, by omega, by go_num, by rw [← CAT.out], rfl, by omega, by omega, HD, H2⟩
      case measure => simp [intOf]; omega
    · have hk4 : k = 4 := by omega
      subst hk4
      go_wp2_with fail
      go_ret
      exact ⟨by rw [← lastB_four]; rfl, HW.out⟩
set_option maxHeartbeats 3200000 in
set_option maxRecDepth 100000 in
theorem rseal_ok (xs : List Int) (n : Nat) (hn : xs.length = n) (hl : n ≤ 16384) (hb : isB xs) (s : ByteArray) (hs : s = strOfNums xs) (h : Hw w0 w F) :
    Calls Try.prog 84 #[.string s] w fun e w' => e = .returned (.tuple #[.string (strOfNums (sealOf xs)), .int .i64 0]) ∧ Hw w0 w' F := by
  have H := Aside0.mk h
  have hsz : s.size = n := by rw [hs, tx_size, hn]
  have d1 : decide ((16384 : Int) < n) = false := decide_eq_false (by omega)
  have d2 : decide (16384 < n) = false := decide_eq_false (by omega)
  have e0 : (n : Int) % 4294967296 = n := by omega
  have N := Aside0.mk hn
  have S := Aside0.mk hs
  have HB := Aside0.mk hb
  clear h hn hs hb
  go_enter Try.func84, Try.ntmps84
  go_wp2_with fail
  refine (rnumber_ok (n : Int) (by omega) (by omega) H.out).mono ?_
  obtain ⟨s1, hs1⟩ : ∃ s1, s1 = strOfNums (be4 (n : Int)) := ⟨_, rfl⟩
  have hz1 : s1.size = 4 := by rw [hs1, tx_size, be4_len]
  rw [← hs1]
  rintro e w1 ⟨rfl, h1⟩
  have H1 := Aside0.mk h1
  have hcat : s1 ++ s = strOfNums (be4 (n : Int) ++ xs) := by rw [hs1, S.out, tx_append]
  have CAT := Aside0.mk hcat
  have S1 := Aside0.mk hs1
  clear h1 H d1 d2 e0 hs1 hcat
  go_wp2_with fail
  refine (rsum_ok (be4 (n : Int) ++ xs) (by rw [List.length_append, be4_len, N.out]; omega) (fun x hx => (List.mem_append.1 hx).elim (be4_isB _ x) (HB.out x)) (s1 ++ s) CAT.out H1.out).mono ?_
  obtain ⟨c, hc⟩ : ∃ c : Int, c = ((crc (be4 (n : Int) ++ xs)).toNat : Int) := ⟨_, rfl⟩
  have hcr := crc_range (be4 (n : Int) ++ xs)
  rw [← hc] at hcr ⊢
  rintro e w2 ⟨rfl, h2⟩
  have H2 := Aside0.mk h2
  have C := Aside0.mk hc
  clear h2 H1 hc
  go_wp2_with fail
  refine (rnumber_ok c hcr.1 hcr.2 H2.out).mono ?_
  obtain ⟨s2, hs2⟩ : ∃ s2, s2 = strOfNums (be4 c) := ⟨_, rfl⟩
  have hz2 : s2.size = 4 := by rw [hs2, tx_size, be4_len]
  rw [← hs2]
  rintro e w3 ⟨rfl, h3⟩
  have H3 := Aside0.mk h3
  have hz12 : (s1 ++ s2).size = 8 := by rw [ByteArray.size_append, hz1, hz2]
  have hfin : s1 ++ s2 ++ s = strOfNums (sealOf xs) := by rw [S1.out, hs2, S.out, ← tx_append, ← tx_append]; unfold sealOf; rw [N.out, C.out]
  have FIN := Aside0.mk hfin
  clear h3 H2 hs2 hfin hcr
  go_wp2_with fail
  go_ret2
  exact ⟨by rw [← FIN.out]; rfl, H3.out⟩
theorem be4_inj {a b : Int} (ha : 0 ≤ a ∧ a < 4294967296) (hb : 0 ≤ b ∧ b < 4294967296) (h : be4 a = be4 b) : a = b := by
  have h1 := rd4_be4 a ha.1 ha.2 []
  have h2 := rd4_be4 b hb.1 hb.2 []
  rw [h] at h1
  rw [← h1, h2]
set_option maxHeartbeats 3200000 in
set_option maxRecDepth 100000 in
theorem ropen_ok (xs : List Int) (n : Nat) (hn : xs.length = n) (hl : n ≤ 16777216) (hb : isB xs) (s : ByteArray) (hs : s = strOfNums xs) (h : Hw w0 w F) :
    Calls Try.prog 85 #[.string s] w fun e w' => e = .returned (.tuple #[.string (strOfNums (openTxt xs)), .int .i64 (openEnd xs), .int .i64 (openErr xs)]) ∧ Hw w0 w' F := by
  have hbad : ∀ c : Int, c ≠ 0 → openErr xs = c → strOfNums (openTxt xs) = ⟨#[]⟩ ∧ openEnd xs = 0 := fun c h0 h1 => by
    obtain ⟨a, b⟩ := open_bad xs (by rw [h1]; exact h0)
    rw [a, b]
    exact ⟨rfl, rfl⟩
  have hsz : s.size = n := by rw [hs, tx_size, hn]
  by_cases h8 : n < 8
  · have he : openErr xs = 10 := by unfold openErr; rw [if_pos (by omega)]
    obtain ⟨e1, e2⟩ := hbad 10 (by decide) he
    rw [he, e1, e2]
    have d1 : decide ((n : Int) < 8) = true := decide_eq_true (by omega)
    have d2 : decide (n < 8) = true := decide_eq_true (by omega)
    have H := Aside0.mk h
    clear h hbad he e1 e2 hs hn hb
    go_enter Try.func85, Try.ntmps85
    go_wp2_with fail
    go_ret3
    exact ⟨rfl, H.out⟩
  · have d1 : decide ((n : Int) < 8) = false := decide_eq_false (by omega)
    have d2 : decide (n < 8) = false := decide_eq_false (by omega)
    obtain ⟨v, hvv⟩ : ∃ v, v = rd4 xs := ⟨_, rfl⟩
    have hvr := rd4_range xs hb
    rw [← hvv] at hvr
    have hv0 := hvr.1
    have hv1 := hvr.2
    have H := Aside0.mk h
    have S := Aside0.mk hs
    have N := Aside0.mk hn
    have HB := Aside0.mk hb
    have BAD := Aside0.mk hbad
    have V := Aside0.mk hvv
    have FB := Aside0.mk (foldl_bound xs hb)
    clear h hbad hs hn hb hvv hvr
    go_enter Try.func85, Try.ntmps85
    go_wp2_with fail
    go_loop [6, 5] (fun i v5 => ∃ k : Nat, k ≤ 4 ∧ i = .int .i64 k ∧ v5 = .int .i64 ((xs.take k).foldl (fun n x => n * 256 + x) 0)) (fun i _ => 4 - (intOf i).toNat)
    case atStart => exact ⟨0, Nat.zero_le _, rfl, rfl⟩
    case round =>
      obtain ⟨k, hk, rfl, rfl⟩ := hrel
      by_cases hlt : k < 4
      · obtain ⟨x, hx⟩ : ∃ x, xs[k]? = some x := ⟨_, List.getElem?_eq_getElem (by rw [N.out]; omega)⟩
        have hxb := HB.out x (List.mem_of_getElem? hx)
        have hidx := tx_index (P := Try.prog) 9 Try.underlying9 xs .i64 (k : Int) k x rfl hx hxb
        rw [← S.out] at hidx
        obtain ⟨u, hu⟩ : ∃ u, u = (xs.take k).foldl (fun n x => n * 256 + x) 0 := ⟨_, rfl⟩
        have hub := FB.out k (by omega)
        rw [← hu] at hub ⊢
        have hp : (256 : Int) ^ k ≤ 16777216 := by
          have : (256 : Int) ^ k ≤ 256 ^ 3 := by exact_mod_cast Nat.pow_le_pow_right (n := 256) (by decide) (show k ≤ 3 by omega)
          exact this
        have hu0 := hub.1
        have hu1 : u < 16777216 := by have := hub.2; omega
        have hx0 := hxb.1
        have hx1 := hxb.2
        have U := Aside0.mk hu
        have X := Aside0.mk hx
        clear hub hp hu hx hxb
        go_wp2
        go_round
        case rel => exact ⟨k + 1, by omega, by go_num, by rw [take_snoc_of X.out, List.foldl_append, ← U.out]; rfl⟩
        case measure => simp [intOf]; omega
      · have hk4 : k = 4 := by omega
        subst hk4
        have hfold : (xs.take 4).foldl (fun n x => n * 256 + x) 0 = v := V.out.symm
        rw [hfold]
        clear hfold
        by_cases hbig : 16384 < v
        · have he : openErr xs = 2 := by unfold openErr; rw [if_neg (by rw [N.out]; exact h8), if_pos (by rw [← V.out]; exact hbig)]
          obtain ⟨e1, e2⟩ := BAD.out 2 (by decide) he
          have E1 := Aside0.mk he
          have E2 := Aside0.mk e1
          have E3 := Aside0.mk e2
          have d3 : decide (16384 < v) = true := decide_eq_true hbig
          clear he e1 e2
          go_wp2_with fail
          go_ret3
          exact ⟨by rw [E1.out, E2.out, E3.out]; rfl, H.out⟩
        · have d3 : decide (16384 < v) = false := decide_eq_false hbig
          by_cases hcutc : (n : Int) < 8 + v
          · have he : openErr xs = 10 := by unfold openErr; rw [if_neg (by rw [N.out]; exact h8), if_neg (by rw [← V.out]; exact hbig), if_pos (by rw [N.out, ← V.out]; omega)]
            obtain ⟨e1, e2⟩ := BAD.out 10 (by decide) he
            have E1 := Aside0.mk he
            have E2 := Aside0.mk e1
            have E3 := Aside0.mk e2
            have d4 : decide ((n : Int) < 8 + v) = true := decide_eq_true hcutc
            clear he e1 e2
            go_wp2_with fail
            go_ret3
            exact ⟨by rw [E1.out, E2.out, E3.out]; rfl, H.out⟩
          · have d4 : decide ((n : Int) < 8 + v) = false := decide_eq_false hcutc
            obtain ⟨m, hm⟩ : ∃ m : Nat, v = m := ⟨v.toNat, by omega⟩
            subst hm
            have hmn : 8 + m ≤ n := by omega
            have hmv : rd4 xs = m := V.out.symm
            obtain ⟨p, hp⟩ : ∃ p, p = (xs.take (8 + m)).drop 8 := ⟨_, rfl⟩
            have hpl : p.length = m := by rw [hp, List.length_drop, List.length_take, N.out]; omega
            have hslP := tx_slice (P := Try.prog) 9 Try.underlying9 xs 8 (8 + (m : Int)) 8 (8 + m) rfl (by omega) (by omega) (by rw [N.out]; exact hmn)
            have hsl4 := tx_slice_to (P := Try.prog) 9 Try.underlying9 xs 4 4 rfl (by rw [N.out]; omega)
            have hsl8 := tx_slice (P := Try.prog) 9 Try.underlying9 xs 4 8 4 8 rfl rfl (by omega) (by rw [N.out]; omega)
            obtain ⟨sp, hsp⟩ : ∃ sp, sp = strOfNums p := ⟨_, rfl⟩
            obtain ⟨s4, hs4⟩ : ∃ s4, s4 = strOfNums (xs.take 4) := ⟨_, rfl⟩
            obtain ⟨s8, hs8⟩ : ∃ s8, s8 = strOfNums ((xs.take 8).drop 4) := ⟨_, rfl⟩
            rw [← S.out, ← hp, ← hsp] at hslP
            rw [← S.out, ← hs4] at hsl4
            rw [← S.out, ← hs8] at hsl8
            have hzp : sp.size = m := by rw [hsp, tx_size, hpl]
            have hz4 : s4.size = 4 := by rw [hs4, tx_size, List.length_take, N.out]; omega
            have hcat : s4 ++ sp = strOfNums (xs.take 4 ++ p) := by rw [hs4, hsp, tx_append]
            have hpb : isB (xs.take 4 ++ p) := by
              intro x hx
              rcases List.mem_append.1 hx with hx | hx
              · exact HB.out x (List.mem_of_mem_take hx)
              · rw [hp] at hx; exact HB.out x (List.mem_of_mem_take (List.mem_of_mem_drop hx))
            obtain ⟨c, hc⟩ : ∃ c : Int, c = ((crc (xs.take 4 ++ p)).toNat : Int) := ⟨_, rfl⟩
            have hcr := crc_range (xs.take 4 ++ p)
            rw [← hc] at hcr
            obtain ⟨sc, hsc⟩ : ∃ sc, sc = strOfNums (be4 c) := ⟨_, rfl⟩
            obtain ⟨q, hq⟩ : ∃ q : Bool, (!(sc.toList == s8.toList)) = q := ⟨_, rfl⟩
            have hq2 : q = false ↔ c = rd4 (xs.drop 4) := by
              have hb4 : isB (xs.drop 4) := fun x hx => HB.out x (List.mem_of_mem_drop hx)
              have ht4 : (xs.take 8).drop 4 = (xs.drop 4).take 4 := by rw [List.drop_take]
              have hbe := be4_rd4_take (xs.drop 4) (by rw [List.length_drop, N.out]; omega) hb4
              rw [← hq, Bool.not_eq_false', beq_iff_eq, tx_toList, hsc, hs8, ht4, ← hbe]
              constructor
              · intro h
                exact be4_inj hcr (rd4_range _ hb4) (tx_inj (be4_isB _) (be4_isB _) h)
              · intro h; rw [h]
            have herr : openErr xs = if q = false then 0 else 11 := by
              unfold openErr
              rw [if_neg (by rw [N.out]; exact h8), if_neg (by rw [hmv]; exact hbig), if_neg (by rw [N.out, hmv]; omega), hmv, Int.toNat_natCast, ← hp, ← hc]
              by_cases hcc : c = rd4 (xs.drop 4)
              · rw [if_pos hcc, if_pos (hq2.2 hcc)]
              · rw [if_neg hcc, if_neg (fun h => hcc (hq2.1 h))]
            have htxt : q = false → strOfNums (openTxt xs) = sp ∧ openEnd xs = 8 + m := by
              intro h
              have h0 : openErr xs = 0 := by rw [herr, if_pos h]
              unfold openTxt openEnd
              rw [if_pos h0, if_pos h0, hmv, Int.toNat_natCast, ← hp, ← hsp]
              exact ⟨rfl, rfl⟩
            have ERR := Aside0.mk herr
            have TXT := Aside0.mk htxt
            have CAT := Aside0.mk hcat
            have PB := Aside0.mk (show bytes (xs.take 4 ++ p) from hpb)
            have hz9 : ¬ 9223372036854775807 < 4 + m := by omega
            have C := Aside0.mk hc
            have SC := Aside0.mk hsc
            have CR := Aside0.mk hcr
            have PL := Aside0.mk (show (xs.take 4 ++ p).length ≤ 140737488355328 by rw [List.length_append, List.length_take, hpl]; omega)
            clear herr htxt hcat hpb hc hsc hcr hq2 hp hpl hsp hs4 hs8 hmv
            go_upto_region 13 with fail
            refine start_ (n := 9) (S := fun w' => True) (ds := []) #[false, false, false, false, false, false, false, false, false] (by kernel_rfl) rfl rfl trivial (fun hHeld => ?_)
            refine pure_ (i := 0) (N := some 33) (v := ?_) (a' := ?_) #[true, false, false, false, false, false, false, false, false] rfl rfl (by kernel_rfl) (fun _ _ _ h => h) (Or.inl ⟨by rfl, ?_⟩) ?_ ?_
            rotate_left
            · intro w'
              go_simp
              with_reducible rfl
            rotate_left
            · simp only [Act.put, List.setIfInBounds_toArray, List.set_cons_zero, List.set_cons_succ, i64_w, i32_w]
              rfl
            refine pure_ (i := 1) (N := some 34) (v := ?_) (a' := ?_) #[true, true, false, false, false, false, false, false, false] rfl rfl (by kernel_rfl) (fun _ _ _ h => h) (Or.inl ⟨by rfl, ?_⟩) ?_ ?_
            rotate_left
            · intro w'
              go_simp
              with_reducible rfl
            rotate_left
            · simp only [Act.put, List.setIfInBounds_toArray, List.set_cons_zero, List.set_cons_succ, i64_w, i32_w]
              rfl
            refine pure_ (i := 2) (N := some 35) (v := ?_) (a' := ?_) #[true, true, true, false, false, false, false, false, false] rfl rfl (by kernel_rfl) (fun _ _ _ h => h) (Or.inl ⟨by rfl, ?_⟩) ?_ ?_
            rotate_left
            · intro w'
              go_simp
              with_reducible rfl
            rotate_left
            · simp only [Act.put, List.setIfInBounds_toArray, List.set_cons_zero, List.set_cons_succ, i64_w, i32_w]
              rfl
            refine pure_ (i := 3) (N := some 36) (v := ?_) (a' := ?_) #[true, true, true, true, false, false, false, false, false] rfl rfl (by kernel_rfl) (fun _ _ _ h => h) (Or.inl ⟨by rfl, ?_⟩) ?_ ?_
            rotate_left
            · intro w'
              go_simp
              with_reducible rfl
            rotate_left
            · simp only [Act.put, List.setIfInBounds_toArray, List.set_cons_zero, List.set_cons_succ, i64_w, i32_w]
              rfl
            refine pure_ (i := 6) (N := some 39) (v := ?_) (a' := ?_) #[true, true, true, true, false, false, true, false, false] rfl rfl (by kernel_rfl) (fun _ _ _ h => h) (Or.inl ⟨by rfl, ?_⟩) ?_ ?_
            rotate_left
            · intro w'
              go_simp
              with_reducible rfl
            rotate_left
            · simp only [Act.put, List.setIfInBounds_toArray, List.set_cons_zero, List.set_cons_succ, i64_w, i32_w]
              rfl
            refine pure_ (i := 7) (N := some 40) (v := ?_) (a' := ?_) #[true, true, true, true, false, false, true, true, false] rfl rfl (by kernel_rfl) (fun _ _ _ h => h) (Or.inl ⟨by rfl, ?_⟩) ?_ ?_
            rotate_left
            · intro w'
              go_simp
              with_reducible rfl
            rotate_left
            · simp only [Act.put, List.setIfInBounds_toArray, List.set_cons_zero, List.set_cons_succ, i64_w, i32_w]
              rfl
            refine one_ (i := 4) (N := some 37) #[true, true, true, true, true, false, true, true, false] rfl rfl (by kernel_rfl) (by decide) (fun K hK => ?_)
            refine goes_ Try.func128 (by kernel_rfl) rfl #[.string (s4 ++ sp)] (by rfl) rfl rfl (by simp only [List.map_toArray, List.map_cons, List.map_nil]; rfl) ?_
            with_reducible refine (rsum_ok (xs.take 4 ++ p) PL.out PB.out (s4 ++ sp) CAT.out H.out.drew).mono ?_
            rintro e w5 ⟨rfl, h5⟩
            refine ⟨_, rfl, ?_⟩
            rw [← C.out]
            have H5 := Aside0.mk h5
            clear h5
            refine hK.out _ _ trivial (fun hHeld => ?_)
            clear hK K
            refine norm_ (a' := ?_) ?_ ?_
            rotate_left
            · show Act.put _ (some 37) _ = _
              simp only [Act.put, List.setIfInBounds_toArray, List.set_cons_zero, List.set_cons_succ, i64_w, i32_w]
              rfl
            refine one_ (i := 5) (N := some 38) #[true, true, true, true, true, true, true, true, false] rfl rfl (by kernel_rfl) (by decide) (fun K hK => ?_)
            refine goes_ Try.func127 (by kernel_rfl) rfl #[.int .u32 c] (by rfl) rfl rfl (by simp only [List.map_toArray, List.map_cons, List.map_nil]; rfl) ?_
            with_reducible refine (rnumber_ok c CR.out.1 CR.out.2 H5.out).mono ?_
            rintro e w6 ⟨rfl, h6⟩
            refine ⟨_, rfl, ?_⟩
            rw [← SC.out]
            have H6 := Aside0.mk h6
            clear h6
            refine hK.out _ _ trivial (fun hHeld => ?_)
            clear hK K
            refine norm_ (a' := ?_) ?_ ?_
            rotate_left
            · show Act.put _ (some 38) _ = _
              simp only [Act.put, List.setIfInBounds_toArray, List.set_cons_zero, List.set_cons_succ, i64_w, i32_w]
              rfl
            refine pure_ (i := 8) (N := some 41) (v := ?_) (a' := ?_) #[true, true, true, true, true, true, true, true, true] rfl rfl (by kernel_rfl) (fun _ _ _ h => h) (Or.inl ⟨by rfl, ?_⟩) ?_ ?_
            rotate_left
            · intro w'
              go_simp
              with_reducible rfl
            rotate_left
            · simp only [Act.put, List.setIfInBounds_toArray, List.set_cons_zero, List.set_cons_succ, i64_w, i32_w]
              rfl
            refine done_ (by kernel_rfl) ?_
            clear hslP hsl4 hsl8 hq
            cases q
            · obtain ⟨t1, t2⟩ := TXT.out rfl
              have T1 := Aside0.mk t1
              have T2 := Aside0.mk t2
              clear t1 t2
              go_wp2_with fail
              go_ret3
              exact ⟨by rw [ERR.out, T1.out, T2.out]; rfl, H6.out⟩
            · obtain ⟨e1, e2⟩ := BAD.out 11 (by decide) (by rw [ERR.out]; rfl)
              have T1 := Aside0.mk e1
              have T2 := Aside0.mk e2
              clear e1 e2
              go_wp2_with fail
              go_ret3
              exact ⟨by rw [ERR.out, T1.out, T2.out]; rfl, H6.out⟩
end
end Go.Proofs.Ytckdkbjobipniaa
