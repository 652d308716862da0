/- Tokens: the document's digits and Print. -/
import Derived.Test.YtloiclalcepbeaaTokenV
set_option linter.unusedVariables false
set_option linter.unusedSimpArgs false
namespace Go.Proofs.Ytloiclalcepbeaa
open Go.RowKit Go.Proofs.YtloiclalcepbeaaW.PrintWords Go.Proofs.YtloiclalcepbeaaW.PrintLast
/-- One sign, cut out. -/
theorem sgn_cut (d : Nat) (hd : d < 31) (lo hi : Int) (h1 : lo = d) (h2 : hi = d + 1) :
    ∀ W : World, (Instr.slice 9 (.string ⟨#[48, 49, 50, 51, 52, 53, 54, 55, 56, 57, 97, 98, 99, 100, 101, 102, 103, 104, 106, 107, 109, 110, 112, 113, 114, 115, 116, 117, 118, 119, 120]⟩) (some (.int .i64 lo)) (some (.int .i64 hi)) none).run Try.prog W = .ok (.string (strOfNums [sgn d])) W := by
  intro W
  rw [← signs_str, tx_slice 9 Try.underlying9 signsL lo hi d (d + 1) h1 (by omega) (by omega) (by show d + 1 ≤ 31; omega) W]
  congr 2
  have h := sgn_at d (by omega) (by omega)
  rw [Int.toNat_natCast] at h
  rw [take_snoc_of h, List.drop_append, List.length_take]
  have : min d signsL.length = d := by show min d 31 = d; omega
  rw [this, Nat.sub_self, List.drop_of_length_le (by rw [List.length_take]; omega)]
  simp
theorem rev_low (n : Nat) (h : 0 < n) : (low31 n).reverse.map sgn = (low31 (n / 31)).reverse.map sgn ++ [sgn ((n % 31 : Nat) : Int)] := by
  rw [low31_pos n h, List.reverse_cons, List.map_append]
  rfl
set_option maxHeartbeats 1600000 in
set_option maxRecDepth 100000 in
theorem rdigits_ok : ∀ (n : Nat) (w : World), (n : Int) ≤ 1125899906842624 → Calls Try.prog 35 #[.int .i64 n] w fun e w' => e = .returned (.string (strOfNums ((low31 n).reverse.map sgn))) ∧ ∃ q, w' = w.drewN q := by
  intro n
  induction n using Nat.strongRecOn with
  | _ n ih =>
    intro w hn
    by_cases h0 : n = 0
    · subst h0
      rw [low31_zero]
      go_enter Try.func35, Try.ntmps35
      go_wp2
      go_ret
      exact ⟨rfl, 0, rfl⟩
    · have hp : 0 < n := by omega
      obtain ⟨q, r, hq, hr, hqn, hq50, e1, e2, e3, e4, w1, w2, w3, w4⟩ := div31_facts n hp hn
      have IH := Aside0.mk (fun W => ih q hqn W hq50)
      have hrl := rev_low n hp
      rw [hq, hr] at hrl
      rw [hrl]
      have hr31 : r < 31 := by omega
      have hcut := sgn_cut r hr31 r ((r : Int) + 1) rfl rfl
      obtain ⟨w5, w6⟩ := i64_in ((r : Int) + 1) (by omega) (by omega)
      obtain ⟨t, ht⟩ : ∃ t, t = strOfNums ((low31 q).reverse.map sgn) := ⟨_, rfl⟩
      obtain ⟨u, hu⟩ : ∃ u, u = strOfNums [sgn (r : Int)] := ⟨_, rfl⟩
      have ht1 : t.size ≤ 11 := by
        rw [ht, tx_size, List.length_map, List.length_reverse]
        exact low31_len11 q (by omega)
      have hu1 : u.size = 1 := by rw [hu, tx_size]; rfl
      have hcat : ¬ 9223372036854775807 < t.size + 1 := by omega
      rw [tx_append, ← ht, ← hu]
      rw [← ht] at IH
      rw [← hu] at hcut
      have d0 : ((n : Int) == 0) = false := by simp; omega
      clear ih hrl hq hr ht hu h0 hp e4
      go_enter Try.func35, Try.ntmps35
      go_wp2_with fail
      refine start_ (n := 11) (S := fun w' => True) (ds := []) #[false, false, false, false, false, false, false, false, false, false, false] (by kernel_rfl) rfl rfl trivial (fun hHeld => ?_)
      refine pure_ (i := 0) (N := some 5) (v := ?_) (a' := ?_) #[true, false, false, false, false, false, false, false, false, false, false] rfl rfl (by kernel_rfl) (fun _ _ _ h => h) (Or.inl ⟨by rfl, ?_⟩) ?_ ?_
      rotate_left
      · intro w'
        go_simp
        with_reducible rfl
      rotate_left
      · simp only [Act.put, List.setIfInBounds_toArray, List.set_cons_zero, List.set_cons_succ, i64_w, i32_w]
        rfl
      refine pure_ (i := 1) (N := some 6) (v := ?_) (a' := ?_) #[true, true, false, false, false, false, false, false, false, false, false] rfl rfl (by kernel_rfl) (fun _ _ _ h => h) (Or.inl ⟨by rfl, ?_⟩) ?_ ?_
      rotate_left
      · intro w'
        go_simp
        with_reducible rfl
      rotate_left
      · simp only [Act.put, List.setIfInBounds_toArray, List.set_cons_zero, List.set_cons_succ, i64_w, i32_w]
        rfl
      refine pure_ (i := 3) (N := some 8) (v := ?_) (a' := ?_) #[true, true, false, true, false, false, false, false, false, false, false] rfl rfl (by kernel_rfl) (fun _ _ _ h => h) (Or.inl ⟨by rfl, ?_⟩) ?_ ?_
      rotate_left
      · intro w'
        go_simp
        with_reducible rfl
      rotate_left
      · simp only [Act.put, List.setIfInBounds_toArray, List.set_cons_zero, List.set_cons_succ, i64_w, i32_w]
        rfl
      refine pure_ (i := 4) (N := some 9) (v := ?_) (a' := ?_) #[true, true, false, true, true, false, false, false, false, false, false] rfl rfl (by kernel_rfl) (fun _ _ _ h => h) (Or.inl ⟨by rfl, ?_⟩) ?_ ?_
      rotate_left
      · intro w'
        go_simp
        with_reducible rfl
      rotate_left
      · simp only [Act.put, List.setIfInBounds_toArray, List.set_cons_zero, List.set_cons_succ, i64_w, i32_w]
        rfl
      refine pure_ (i := 5) (N := some 10) (v := ?_) (a' := ?_) #[true, true, false, true, true, true, false, false, false, false, false] rfl rfl (by kernel_rfl) (fun _ _ _ h => h) (Or.inl ⟨by rfl, ?_⟩) ?_ ?_
      rotate_left
      · intro w'
        go_simp
        with_reducible rfl
      rotate_left
      · simp only [Act.put, List.setIfInBounds_toArray, List.set_cons_zero, List.set_cons_succ, i64_w, i32_w]
        rfl
      refine pure_ (i := 6) (N := some 11) (v := ?_) (a' := ?_) #[true, true, false, true, true, true, true, false, false, false, false] rfl rfl (by kernel_rfl) (fun _ _ _ h => h) (Or.inl ⟨by rfl, ?_⟩) ?_ ?_
      rotate_left
      · intro w'
        go_simp
        with_reducible rfl
      rotate_left
      · simp only [Act.put, List.setIfInBounds_toArray, List.set_cons_zero, List.set_cons_succ, i64_w, i32_w]
        rfl
      refine pure_ (i := 7) (N := some 12) (v := ?_) (a' := ?_) #[true, true, false, true, true, true, true, true, false, false, false] rfl rfl (by kernel_rfl) (fun _ _ _ h => h) (Or.inl ⟨by rfl, ?_⟩) ?_ ?_
      rotate_left
      · intro w'
        go_simp
        with_reducible rfl
      rotate_left
      · simp only [Act.put, List.setIfInBounds_toArray, List.set_cons_zero, List.set_cons_succ, i64_w, i32_w]
        rfl
      refine pure_ (i := 8) (N := some 13) (v := ?_) (a' := ?_) #[true, true, false, true, true, true, true, true, true, false, false] rfl rfl (by kernel_rfl) (fun _ _ _ h => h) (Or.inl ⟨by rfl, ?_⟩) ?_ ?_
      rotate_left
      · intro w'
        go_simp
        with_reducible rfl
      rotate_left
      · simp only [Act.put, List.setIfInBounds_toArray, List.set_cons_zero, List.set_cons_succ, i64_w, i32_w]
        rfl
      refine one_ (i := 2) (N := some 7) #[true, true, true, true, true, true, true, true, true, false, false] rfl rfl (by kernel_rfl) (by decide) (fun K hK => ?_)
      refine goes_ Try.func35 (by kernel_rfl) rfl #[.int .i64 q] (by rfl) rfl rfl (by simp only [List.map_toArray, List.map_cons, List.map_nil]; rfl) ?_
      with_reducible refine (IH.out _).mono ?_
      rintro e w4 ⟨rfl, q4, rfl⟩
      refine ⟨_, rfl, ?_⟩
      refine hK.out _ _ trivial (fun hHeld => ?_)
      clear hK K
      refine norm_ (a' := ?_) ?_ ?_
      rotate_left
      · show Act.put _ (some 7) _ = _
        simp only [Act.put, List.setIfInBounds_toArray, List.set_cons_zero, List.set_cons_succ, i64_w, i32_w]
        rfl
      refine pure_ (i := 9) (N := some 14) (v := ?_) (a' := ?_) #[true, true, true, true, true, true, true, true, true, true, false] rfl rfl (by kernel_rfl) (fun _ _ _ h => h) (Or.inl ⟨by rfl, ?_⟩) ?_ ?_
      rotate_left
      · intro w'
        go_simp
        with_reducible rfl
      rotate_left
      · simp only [Act.put, List.setIfInBounds_toArray, List.set_cons_zero, List.set_cons_succ, i64_w, i32_w]
        rfl
      refine pure_ (i := 10) (N := some 2) (v := ?_) (a' := ?_) #[true, true, true, true, true, true, true, true, true, true, true] rfl rfl (by kernel_rfl) (fun _ _ _ h => h) (Or.inl ⟨by rfl, ?_⟩) ?_ ?_
      rotate_left
      · intro w'
        go_simp
        with_reducible rfl
      rotate_left
      · simp only [Act.put, List.setIfInBounds_toArray, List.set_cons_zero, List.set_cons_succ, i64_w, i32_w]
        rfl
      refine done_ (by kernel_rfl) ?_
      clear hHeld
      go_wp2_with fail
      go_ret
      exact ⟨rfl, _, World.drewN_drew _ _⟩
theorem tok_iff (l : List Int) (k : Nat) : tok l k = true ↔ tsum 0 (l ++ [(k : Int)]) % 31 = 0 := by
  unfold tok
  rw [beq_iff_eq, tsum_snoc]
  have e : ((0 : Nat) : Int) + l.length + 1 = (l.length : Int) + 1 := by omega
  rw [e]
theorem tcheck_at (l : List Int) (hd : digs l) (hl : l.length ≤ 20) (k : Nat) (hk : k < 31) (h1 : tsum 0 (l ++ [(k : Int)]) % 31 = 0) : tcheck l = k := by
  have := (tcheck_iff l hd hl (k : Int) ⟨by omega, by omega⟩).2 h1
  omega
theorem digs_snoc {l : List Int} (hd : digs l) (z : Int) (hz : 0 ≤ z ∧ z ≤ 30) : digs (l ++ [z]) := by
  intro d h
  rcases List.mem_append.1 h with h | h
  · exact hd d h
  · have h : d = z := by simpa using h
    rw [h]; exact hz
set_option maxHeartbeats 3200000 in
set_option maxRecDepth 100000 in
theorem rprint_ok (node rev : Int) (w : World) :
    Calls Try.prog 17 #[.int .i64 node, .int .i64 rev] w fun e w' => e = .returned (.tuple #[.string (strOfNums (ttext node rev)), .int .i64 (terr node rev)]) ∧ Below w.heap.size w w' := by
  by_cases hf : tfits node rev
  · obtain ⟨a, b, rfl, rfl, ha, hb⟩ := tfits_nat hf
    obtain ⟨f1, f2⟩ := ttext_fits ha hb
    rw [f1, f2]
    have d1 : decide ((a : Int) < 0) = false := decide_eq_false (by omega)
    have d2 : decide ((8 : Int) ≤ a) = false := decide_eq_false (by omega)
    have d3 : decide ((b : Int) < 0) = false := decide_eq_false (by omega)
    have d4 : decide ((1125899906842624 : Int) < b) = false := decide_eq_false (by omega)
    have hcut := sgn_cut a (by omega) a ((a : Int) + 1) rfl rfl
    obtain ⟨w5, w6⟩ := i64_in ((a : Int) + 1) (by omega) (by omega)
    have hB := tbody_len a b hb
    have hBd := tbody_digs a b ha
    obtain ⟨t, ht⟩ : ∃ t, t = strOfNums [sgn (a : Int)] := ⟨_, rfl⟩
    obtain ⟨u, hu⟩ : ∃ u, u = strOfNums ((low31 b).reverse.map sgn) := ⟨_, rfl⟩
    have ht1 : t.size = 1 := by rw [ht, tx_size]; rfl
    have hu1 : u.size ≤ 11 := by
      rw [hu, tx_size, List.length_map, List.length_reverse]
      exact low31_len11 b (by omega)
    have hcat : ¬ 9223372036854775807 < 1 + u.size := by omega
    obtain ⟨l, hl⟩ : ∃ l, l = tbody a b := ⟨_, rfl⟩
    have hcatS : t ++ u = strOfNums (l.map sgn) := by
      rw [ht, hu, ← tx_append, hl]; rfl
    have D := Aside0.mk (fun W => rdigits_ok b W (by omega))
    rw [← hu] at D
    rw [← ht] at hcut
    have HTD := Aside0.mk (show tdigits a b = l ++ [(tcheck l : Int)] by rw [hl]; rfl)
    rw [← hl] at hB hBd
    obtain ⟨s, hs⟩ : ∃ s, s = t ++ u := ⟨_, rfl⟩
    have CS := Aside0.mk (hs.trans hcatS)
    have SS := Aside0.mk hs
    have BD := Aside0.mk hBd
    have ssz : s.size ≤ 12 := by rw [hs, hcatS, tx_size, List.length_map]; exact hB
    clear ht hu hl hcatS hs hBd f1 f2 hf
    go_enter Try.func17, Try.ntmps17
    go_wp2_with fail
    refine start_ (n := 8) (S := fun w' => True) (ds := []) #[false, false, false, false, false, false, false, false] (by kernel_rfl) rfl rfl trivial (fun hHeld => ?_)
    refine pure_ (i := 0) (N := some 22) (v := ?_) (a' := ?_) #[true, false, false, false, false, false, false, false] rfl rfl (by kernel_rfl) (fun _ _ _ h => h) (Or.inl ⟨by rfl, ?_⟩) ?_ ?_
    rotate_left
    · intro w'
      go_simp
      with_reducible rfl
    rotate_left
    · simp only [Act.put, List.setIfInBounds_toArray, List.set_cons_zero, List.set_cons_succ, i64_w, i32_w]
      rfl
    refine pure_ (i := 1) (N := some 23) (v := ?_) (a' := ?_) #[true, true, false, false, false, false, false, false] rfl rfl (by kernel_rfl) (fun _ _ _ h => h) (Or.inl ⟨by rfl, ?_⟩) ?_ ?_
    rotate_left
    · intro w'
      go_simp
      with_reducible rfl
    rotate_left
    · simp only [Act.put, List.setIfInBounds_toArray, List.set_cons_zero, List.set_cons_succ, i64_w, i32_w]
      rfl
    refine pure_ (i := 2) (N := some 24) (v := ?_) (a' := ?_) #[true, true, true, false, false, false, false, false] rfl rfl (by kernel_rfl) (fun _ _ _ h => h) (Or.inl ⟨by rfl, ?_⟩) ?_ ?_
    rotate_left
    · intro w'
      go_simp
      with_reducible rfl
    rotate_left
    · simp only [Act.put, List.setIfInBounds_toArray, List.set_cons_zero, List.set_cons_succ, i64_w, i32_w]
      rfl
    refine pure_ (i := 3) (N := some 25) (v := ?_) (a' := ?_) #[true, true, true, true, false, false, false, false] rfl rfl (by kernel_rfl) (fun _ _ _ h => h) (Or.inl ⟨by rfl, ?_⟩) ?_ ?_
    rotate_left
    · intro w'
      go_simp
      with_reducible rfl
    rotate_left
    · simp only [Act.put, List.setIfInBounds_toArray, List.set_cons_zero, List.set_cons_succ, i64_w, i32_w]
      rfl
    refine pure_ (i := 4) (N := some 26) (v := ?_) (a' := ?_) #[true, true, true, true, true, false, false, false] rfl rfl (by kernel_rfl) (fun _ _ _ h => h) (Or.inl ⟨by rfl, ?_⟩) ?_ ?_
    rotate_left
    · intro w'
      go_simp
      with_reducible rfl
    rotate_left
    · simp only [Act.put, List.setIfInBounds_toArray, List.set_cons_zero, List.set_cons_succ, i64_w, i32_w]
      rfl
    refine one_ (i := 5) (N := some 27) #[true, true, true, true, true, true, false, false] rfl rfl (by kernel_rfl) (by decide) (fun K hK => ?_)
    refine goes_ Try.func35 (by kernel_rfl) rfl #[.int .i64 b] (by rfl) rfl rfl (by simp only [List.map_toArray, List.map_cons, List.map_nil]; rfl) ?_
    with_reducible refine (D.out _).mono ?_
    rintro e w4 ⟨rfl, q4, rfl⟩
    refine ⟨_, rfl, ?_⟩
    refine hK.out _ _ trivial (fun hHeld => ?_)
    clear hK K
    refine norm_ (a' := ?_) ?_ ?_
    rotate_left
    · show Act.put _ (some 27) _ = _
      simp only [Act.put, List.setIfInBounds_toArray, List.set_cons_zero, List.set_cons_succ, i64_w, i32_w]
      rfl
    refine pure_ (i := 6) (N := some 28) (v := ?_) (a' := ?_) #[true, true, true, true, true, true, true, false] rfl rfl (by kernel_rfl) (fun _ _ _ h => h) (Or.inl ⟨by rfl, ?_⟩) ?_ ?_
    rotate_left
    · intro w'
      go_simp
      with_reducible rfl
    rotate_left
    · simp only [Act.put, List.setIfInBounds_toArray, List.set_cons_zero, List.set_cons_succ, i64_w, i32_w]
      rfl
    refine pure_ (i := 7) (N := some 6) (v := ?_) (a' := ?_) #[true, true, true, true, true, true, true, true] rfl rfl (by kernel_rfl) (fun _ _ _ h => h) (Or.inl ⟨by rfl, ?_⟩) ?_ ?_
    rotate_left
    · intro w'
      go_simp
      with_reducible rfl
    rotate_left
    · simp only [Act.put, List.setIfInBounds_toArray, List.set_cons_zero, List.set_cons_succ, i64_w, i32_w]
      rfl
    refine done_ (by kernel_rfl) ?_
    clear hHeld
    go_wp2_with fail
    rw [← SS.out]
    clear hcut d1 d2 d3 d4 w5 w6 ht1 hu1 hcat D
    obtain ⟨W, hW⟩ : ∃ W : World, W = w.drew.drewN q4 := ⟨_, rfl⟩
    have WB : Aside0 (Below w.heap.size w W) := ⟨by rw [hW]; exact ((Hw.start w).drew.drewN _).below⟩
    rw [← hW]
    clear hW
    go_loopw [7] (fun i wr => ∃ k : Nat, k ≤ 31 ∧ i = .int .i64 k ∧ W = wr ∧ Aside0 (∀ j : Nat, j < k → tok l j = false)) (fun i _ => 31 - (intOf i).toNat)
    case atStart => exact ⟨0, Nat.zero_le _, rfl, rfl, ⟨fun y hy => by omega⟩⟩
    case round =>
      obtain ⟨k, hk, rfl, rfl, HY⟩ := hrel
      by_cases hlt : k < 31
      · have hcut := sgn_cut k hlt k ((k : Int) + 1) rfl rfl
        obtain ⟨w5, w6⟩ := i64_in ((k : Int) + 1) (by omega) (by omega)
        obtain ⟨v, hv⟩ : ∃ v, v = strOfNums [sgn (k : Int)] := ⟨_, rfl⟩
        have hv1 : v.size = 1 := by rw [hv, tx_size]; rfl
        rw [← hv] at hcut
        have hcat : ¬ 9223372036854775807 < s.size + 1 := by clear w5 w6; omega
        have hcs : s ++ v = strOfNums ((l ++ [(k : Int)]).map sgn) := by rw [CS.out, hv, ← tx_append, List.map_append]; rfl
        have P := Aside0.mk (fun W => rtsum_ok (l ++ [(k : Int)]) (digs_snoc BD.out _ ⟨by omega, by omega⟩) (by clear w5 w6; simp; omega) (s ++ v) hcs W)
        have TI := tok_iff l k
        have TC := tcheck_at l BD.out (by clear w5 w6; omega) k hlt
        obtain ⟨z, hz⟩ : ∃ z, z = tsum 0 (l ++ [(k : Int)]) % 31 := ⟨_, rfl⟩
        rw [← hz] at P TI TC
        clear hv hz
        by_cases hz0 : z = 0
        · have FO := Aside0.mk (show s ++ v = strOfNums ((tdigits a b).map sgn) by rw [HTD.out, TC hz0]; exact hcs)
          subst hz0
          clear TI TC hcs
          go_wp2_with fail
          refine (P.out _).mono ?_
          rintro e w' ⟨rfl, rfl⟩
          go_wp2_with fail
          go_ret2
          exact ⟨by rw [FO.out]; rfl, WB.out⟩
        · have HN := Aside0.mk (show ∀ j : Nat, j < k + 1 → tok l j = false by
            intro j hj
            by_cases h : j < k
            · exact HY.out j h
            · have : j = k := by clear w5 w6; omega
              subst this
              rw [← Bool.not_eq_true]
              exact fun hh => hz0 (TI.1 hh))
          have q : (z == 0) = false := by simpa using hz0
          clear TI TC hcs hz0
          go_wp2_with fail
          refine (P.out _).mono ?_
          rintro e w' ⟨rfl, rfl⟩
          go_wp2_with fail
          clear w5 w6
          go_roundw
          case rel => exact ⟨k + 1, by omega, by go_num, trivial, HN⟩
          case measure => simp [intOf]; omega
      · exfalso
        have h1 := tcheck_tok l BD.out (by omega)
        have h2 := HY.out (tcheck l) (by have := tcheck_lt l; omega)
        rw [h2] at h1
        cases h1
  · have e1 : ttext node rev = [] := if_neg hf
    have e2 : terr node rev = 1 := if_neg hf
    rw [e1, e2]
    unfold tfits at hf
    have hc : node < 0 ∨ (0 ≤ node ∧ 8 ≤ node) ∨ (0 ≤ node ∧ node < 8 ∧ rev < 0) ∨ (0 ≤ node ∧ node < 8 ∧ 0 ≤ rev ∧ 1125899906842624 < rev) := by omega
    clear hf e1 e2
    rcases hc with d1 | ⟨d1, d2⟩ | ⟨d1, d2, d3⟩ | ⟨d1, d2, d3, d4⟩
    all_goals
      go_enter Try.func17, Try.ntmps17
      go_wp2
      go_ret2
      exact ⟨rfl, Below.refl _ _⟩
end Go.Proofs.Ytloiclalcepbeaa
