/- FrameTells' walk. -/
import Derived.Test.YtehbchggekbkkaaFrameAwake
import Derived.Test.YtehbchggekbkkaaFlip
set_option linter.unusedVariables false
set_option linter.unusedSimpArgs false
namespace Go.Proofs.Ytehbchggekbkkaa
open Go.RowKit Go.Proofs.YtehbchggekbkkaaW.PrintWords Go.Proofs.YtehbchggekbkkaaW.PrintLast
theorem isB_of_wf' {xs : List Int} (h : ∀ x ∈ xs, (Lit.int .u8 x).wf = true) : isB xs := by
  intro x hx
  have := h x hx
  simp [Lit.wf] at this
  first | omega | (simp [IntKind.min, IntKind.max, IntKind.bits, IntKind.signed] at this; omega)
theorem set_app_right {α : Type} (l r : List α) (k : Nat) (y : α) : (l ++ r).set (l.length + k) y = l ++ r.set k y := by
  rw [List.set_append_right _ _ (by omega)]; congr 2; omega
/-- A frame one of whose bytes behind the length is another is refused for its sum. -/
theorem open_turned (xs : List Int) (hb : isB xs) (hl : xs.length ≤ 16384) (q : Nat) (v y : Int) (hq : 4 ≤ q) (hv : (sealOf xs)[q]? = some v) (hy : 0 ≤ y ∧ y ≤ 255) (hne : y ≠ v) : openErr ((sealOf xs).set q y) = 11 := by
  obtain ⟨k, rfl⟩ : ∃ k, q = 4 + k := ⟨q - 4, by omega⟩
  obtain ⟨c, hc⟩ : ∃ c : Int, c = ((crc (be4 xs.length ++ xs)).toNat : Int) := ⟨_, rfl⟩
  have hcr := crc_range (be4 xs.length ++ xs)
  rw [← hc] at hcr
  have e0 : sealOf xs = be4 xs.length ++ (be4 c ++ xs) := by unfold sealOf; rw [← hc]; simp
  rw [e0] at hv ⊢
  have hlt := (List.getElem?_eq_some_iff.1 hv).1
  have hset : (be4 (xs.length : Int) ++ (be4 c ++ xs)).set (4 + k) y = be4 xs.length ++ (be4 c ++ xs).set k y := set_app_right (be4 (xs.length : Int)) (be4 c ++ xs) k y
  rw [hset]
  have hv' : (be4 c ++ xs)[k]? = some v := by
    rw [List.getElem?_append_right (by simp [be4_len])] at hv
    rw [← hv]; congr 1; simp [be4_len]
  have hvb : 0 ≤ v ∧ v ≤ 255 := by
    have hm := List.mem_of_getElem? hv'
    rcases List.mem_append.1 hm with hm | hm
    · exact be4_isB _ v hm
    · exact hb v hm
  have e1 : ∀ zs, rd4 (be4 (xs.length : Int) ++ zs) = xs.length := fun zs => rd4_be4 _ (by omega) (by omega) zs
  have hlen : (be4 (xs.length : Int) ++ (be4 c ++ xs).set k y).length = 8 + xs.length := by simp [be4_len]; omega
  have e2 : ∀ zs, (be4 (xs.length : Int) ++ zs).take 4 = be4 xs.length := fun zs => List.take_left' rfl
  have e3 : ∀ zs, (be4 (xs.length : Int) ++ zs).drop 4 = zs := fun zs => List.drop_left' rfl
  unfold openErr
  rw [e1, Int.toNat_natCast, e2, e3, hlen, if_neg (by omega), if_neg (by omega), if_neg (by omega)]
  by_cases hk : k < 4
  · have hs : (be4 c ++ xs).set k y = (be4 c).set k y ++ xs := by rw [List.set_append_left _ _ (by simpa [be4_len] using hk)]
    rw [hs]
    have e4 : ((be4 (xs.length : Int) ++ ((be4 c).set k y ++ xs)).take (8 + xs.length)).drop 8 = xs := by
      rw [List.take_of_length_le (by simp [be4_len]; omega), ← List.append_assoc, List.drop_left' (by simp [be4_len])]
    rw [e4, ← hc]
    rw [if_neg]
    intro h
    have hbs : isB ((be4 c).set k y ++ xs) := by
      intro x hx
      rcases List.mem_append.1 hx with hx | hx
      · rcases List.mem_or_eq_of_mem_set hx with hx | hx
        · exact be4_isB _ x hx
        · subst hx; exact hy
      · exact hb x hx
    have h2 := be4_rd4_take ((be4 c).set k y ++ xs) (by simp [be4_len]) hbs
    rw [← h, List.take_left' (by simp [be4_len])] at h2
    have h3 : (be4 c)[k]? = ((be4 c).set k y)[k]? := by rw [← h2]
    rw [List.getElem?_append_left (by simpa [be4_len] using hk)] at hv'
    rw [hv', List.getElem?_set_self (by simpa [be4_len] using hk)] at h3
    exact hne (by simpa using h3.symm)
  · obtain ⟨j, rfl⟩ : ∃ j, k = 4 + j := ⟨k - 4, by omega⟩
    have hs : (be4 c ++ xs).set (4 + j) y = be4 c ++ xs.set j y := set_app_right (be4 c) xs j y
    rw [hs]
    have hx : xs[j]? = some v := by
      rw [List.getElem?_append_right (by simp [be4_len])] at hv'
      rw [← hv']; congr 1; simp [be4_len]
    have e4 : ((be4 (xs.length : Int) ++ (be4 c ++ xs.set j y)).take (8 + xs.length)).drop 8 = xs.set j y := by
      rw [List.take_of_length_le (by simp [be4_len]; omega), ← List.append_assoc, List.drop_left' (by simp [be4_len])]
    rw [e4, rd4_be4 c hcr.1 hcr.2]
    rw [if_neg]
    intro h
    have h2 : crc (be4 xs.length ++ xs.set j y) = crc (be4 xs.length ++ xs) := by
      apply BitVec.eq_of_toNat_eq
      have : ((crc (be4 (xs.length : Int) ++ xs.set j y)).toNat : Int) = ((crc (be4 (xs.length : Int) ++ xs)).toNat : Int) := by rw [h, hc]
      exact_mod_cast this
    have h3 : be4 (xs.length : Int) ++ xs.set j y = (be4 xs.length ++ xs).set (4 + j) y := (set_app_right (be4 (xs.length : Int)) xs j y).symm
    rw [h3] at h2
    exact hne (crc_set _ (4 + j) v y (by rw [List.getElem?_append_right (by simp [be4_len])]; rw [← hx]; congr 1; simp [be4_len]) hvb hy h2)
set_option maxHeartbeats 1600000 in
set_option maxRecDepth 100000 in
theorem frameTells_out (A : Option Addr) (n ca : Nat) (xs : List Int) (turn : Int) (w : World) (hA : (Kd.int .u8).C w A n xs) (hca : n ≤ ca) (hn : 16384 < n) :
    Calls Try.prog 6 #[.slice A n ca, .int .i64 turn] w fun e w' => e = .returned (.bool true) ∧ Below w.heap.size w w' := by
  have d1 : decide ((16384 : Int) < n) = true := decide_eq_true (by omega)
  have d2 : decide (16384 < n) = true := decide_eq_true (by omega)
  clear hA
  go_enter Try.func6, Try.ntmps6
  go_wp2_with fail
  refine (fawake_ok (Hw.start w)).mono ?_
  rintro e w1 ⟨rfl, h1⟩
  have H1 := Aside0.mk h1
  clear h1
  go_wp2_with fail
  refine (fseal_long A n ca hn).mono ?_
  rintro e w2 ⟨rfl, rfl⟩
  go_wp2_with fail
  go_ret
  exact ⟨rfl, H1.out.below⟩
set_option maxHeartbeats 1600000 in
set_option maxRecDepth 100000 in
theorem frameTells_far (A : Option Addr) (n ca : Nat) (xs : List Int) (turn : Int) (w : World) (hA : (Kd.int .u8).C w A n xs) (hca : n ≤ ca) (hn : n ≤ 16384) (hb : isB xs) (ht : turn < 32 ∨ (32 ≤ turn ∧ (n : Int) + 8 ≤ turn / 8)) (ht2 : -9223372036854775808 ≤ turn ∧ turn ≤ 9223372036854775807) :
    Calls Try.prog 6 #[.slice A n ca, .int .i64 turn] w fun e w' => e = .returned (.bool true) ∧ Below w.heap.size w w' := by
  have hl : xs.length = n := hA.1
  have HL := Aside0.mk hl
  have HA := Aside0.mk hA
  have HB := Aside0.mk hb
  have hlo := ht2.1
  have hhi := ht2.2
  clear hA hl hb ht2
  have main : ∀ (ok : Bool), decide (turn < 32) = ok → (ok = false → 32 ≤ turn ∧ (n : Int) + 8 ≤ turn / 8) → Calls Try.prog 6 #[.slice A n ca, .int .i64 turn] w fun e w' => e = .returned (.bool true) ∧ Below w.heap.size w w' := by
    intro ok hok himp
    cases ok
    · obtain ⟨h32, hfar⟩ := himp rfl
      clear himp
      have e1 : wrap64 (turn / 8) = turn / 8 := by unfold wrap64; omega
      have d3 : decide (((n : Int) + 8) ≤ turn / 8) = true := decide_eq_true hfar
      go_enter Try.func6, Try.ntmps6
      go_wp2_with fail
      refine (fawake_ok (Hw.start w)).mono ?_
      rintro e w1 ⟨rfl, h1⟩
      have H1 := Aside0.mk h1
      clear h1
      go_wp2_with fail
      refine (fseal_ok A n ca xs hn hca H1.out (Ent.of_old HA.out)).mono ?_
      rintro e w2 ⟨A2, n2, c2, rfl, h2⟩
      have H2 := Aside0.mk h2
      have hn2 : n2 = n + 8 := by have := h2.row_C.1; rw [this, sealOf_len, HL.out, Nat.add_comm]
      subst hn2
      clear h2 H1
      go_wp2_with fail
      go_ret
      exact ⟨rfl, H2.out.below⟩
    · clear himp
      go_enter Try.func6, Try.ntmps6
      go_wp2_with fail
      refine (fawake_ok (Hw.start w)).mono ?_
      rintro e w1 ⟨rfl, h1⟩
      have H1 := Aside0.mk h1
      clear h1
      go_wp2_with fail
      refine (fseal_ok A n ca xs hn hca H1.out (Ent.of_old HA.out)).mono ?_
      rintro e w2 ⟨A2, n2, c2, rfl, h2⟩
      have H2 := Aside0.mk h2
      clear h2 H1
      go_wp2_with fail
      go_ret
      exact ⟨rfl, H2.out.below⟩
  exact main _ rfl (fun h => by
    have : ¬ turn < 32 := of_decide_eq_false h
    rcases ht with h | h
    · omega
    · exact h)
set_option maxHeartbeats 1600000 in
set_option maxRecDepth 100000 in
theorem frameTells_in (A : Option Addr) (n ca : Nat) (xs : List Int) (b : Nat) (w : World) (hA : (Kd.int .u8).C w A n xs) (hca : n ≤ ca) (hn : n ≤ 16384) (hb : isB xs) (h32 : 32 ≤ b) (hin : b / 8 < n + 8) :
    Calls Try.prog 6 #[.slice A n ca, .int .i64 b] w fun e w' => e = .returned (.bool true) ∧ Below w.heap.size w w' := by
  have hl : xs.length = n := hA.1
  have HL := Aside0.mk hl
  have HA := Aside0.mk hA
  have HB := Aside0.mk hb
  obtain ⟨q, hq⟩ : ∃ q, q = b / 8 := ⟨_, rfl⟩
  obtain ⟨r, hr⟩ : ∃ r, r = b % 8 := ⟨_, rfl⟩
  have hr8 : r < 8 := by omega
  rw [← hq] at hin
  have hq4 : 4 ≤ q := by omega
  have d1 : decide ((b : Int) < 32) = false := decide_eq_false (by omega)
  have d1' : decide (b < 32) = false := decide_eq_false (by omega)
  have e1 : wrap64 ((b : Int) / 8) = (q : Int) := by unfold wrap64; omega
  have e1' : ((b : Int) / 8) = (q : Int) := by omega
  have e2 : wrap64 ((b : Int) % 8) = (r : Int) := by unfold wrap64; omega
  have e2' : ((b : Int) % 8) = (r : Int) := by omega
  have d3 : decide (((n : Int) + 8) ≤ q) = false := decide_eq_false (by omega)
  have d3' : decide (n + 8 ≤ q) = false := decide_eq_false (by omega)
  have e3 : wrap64 (q : Int) = q := by unfold wrap64; omega
  have e4 : (b : Int).tmod 8 = r := by rw [Int.tmod_eq_emod_of_nonneg (by omega)]; exact e2'
  have hq1 : (q : Int) < (n : Int) + 8 := by omega
  clear hA hl hb hq hr
  go_enter Try.func6, Try.ntmps6
  go_wp2_with fail
  refine (fawake_ok (Hw.start w)).mono ?_
  rintro e w1 ⟨rfl, h1⟩
  have H1 := Aside0.mk h1
  clear h1
  go_wp2_with fail
  refine (fseal_ok A n ca xs hn hca H1.out (Ent.of_old HA.out)).mono ?_
  rintro e w2 ⟨A2, n2, c2, rfl, h2⟩
  have hn2 : n2 = n + 8 := by have := h2.row_C.1; rw [this, sealOf_len, HL.out, Nat.add_comm]
  subst hn2
  obtain ⟨v, hv⟩ : ∃ v, (sealOf xs)[q]? = some v := ⟨_, List.getElem?_eq_getElem (by rw [sealOf_len, HL.out]; omega)⟩
  have hvb := sealOf_isB xs HB.out v (List.mem_of_getElem? hv)
  obtain ⟨y, f0, f2, f3, f4, f5, f6⟩ := flip8_facts v r hvb.1 hvb.2 hr8
  obtain ⟨bd, rfl, hc, hf, HPut⟩ := row_at h2.drew q v hv
  have H2 := Aside0.mk h2
  have VV := Aside0.mk hv
  have F3 := Aside0.mk f3
  have F4 := Aside0.mk f4
  have F5 := Aside0.mk f5
  clear h2 H1 hv f0 f3 f4 f5 f6 hvb
  go_upto_region 6 with fail
  refine start_ (n := 11) (S := fun w' => w'.cell? (bd.add q) = some (.int .u8 v)) (ds := [10]) #[false, false, false, false, false, false, false, false, false, false, false] (by kernel_rfl) rfl rfl (hc) (fun hHeld => ?_)
  refine pure_ (i := 0) (N := some 37) (v := ?_) (a' := ?_) #[true, false, false, false, false, false, false, false, false, false, false] rfl rfl (by kernel_rfl) (fun _ _ _ h => h) (Or.inl ⟨by rfl, ?_⟩) ?_ ?_
  rotate_left
  · intro w'
    go_simp
    with_reducible rfl
  rotate_left
  · simp only [Act.put, List.setIfInBounds_toArray, List.set_cons_zero, List.set_cons_succ, i64_w, i32_w]
    rfl
  refine pure_ (i := 1) (N := some 38) (v := ?_) (a' := ?_) #[true, true, false, false, false, false, false, false, false, false, false] rfl rfl (by kernel_rfl) (fun _ _ _ h => h) (Or.inl ⟨by rfl, ?_⟩) ?_ ?_
  rotate_left
  · intro w'
    go_simp
    with_reducible rfl
  rotate_left
  · simp only [Act.put, List.setIfInBounds_toArray, List.set_cons_zero, List.set_cons_succ, i64_w, i32_w]
    rfl
  refine pure_ (i := 2) (N := some 39) (v := ?_) (a' := ?_) #[true, true, true, false, false, false, false, false, false, false, false] rfl rfl (by kernel_rfl) (fun _ _ _ h => h) (Or.inl ⟨by rfl, ?_⟩) ?_ ?_
  rotate_left
  · intro w'
    go_simp
    with_reducible rfl
  rotate_left
  · simp only [Act.put, List.setIfInBounds_toArray, List.set_cons_zero, List.set_cons_succ, i64_w, i32_w]
    rfl
  refine pure_ (i := 3) (N := some 40) (v := ?_) (a' := ?_) #[true, true, true, true, false, false, false, false, false, false, false] rfl rfl (by kernel_rfl) (fun _ _ _ h => h) (Or.inl ⟨by rfl, ?_⟩) ?_ ?_
  rotate_left
  · intro w'
    go_simp
    with_reducible rfl
  rotate_left
  · simp only [Act.put, List.setIfInBounds_toArray, List.set_cons_zero, List.set_cons_succ, i64_w, i32_w]
    rfl
  refine pure_ (i := 5) (N := some 42) (v := ?_) (a' := ?_) #[true, true, true, true, false, true, false, false, false, false, false] rfl rfl (by kernel_rfl) (fun _ _ _ h => h) (Or.inl ⟨by rfl, ?_⟩) ?_ ?_
  rotate_left
  · intro w'
    go_simp
    with_reducible rfl
  rotate_left
  · simp only [Act.put, List.setIfInBounds_toArray, List.set_cons_zero, List.set_cons_succ, i64_w, i32_w]
    rfl
  refine pure_ (i := 6) (N := some 43) (v := ?_) (a' := ?_) #[true, true, true, true, false, true, true, false, false, false, false] rfl rfl (by kernel_rfl) (fun _ _ _ h => h) (Or.inl ⟨by rfl, ?_⟩) ?_ ?_
  rotate_left
  · intro w'
    go_simp
    with_reducible rfl
  rotate_left
  · simp only [Act.put, List.setIfInBounds_toArray, List.set_cons_zero, List.set_cons_succ, i64_w, i32_w]
    rfl
  refine pure_ (i := 7) (N := some 44) (v := ?_) (a' := ?_) #[true, true, true, true, false, true, true, true, false, false, false] rfl rfl (by kernel_rfl) (fun _ _ _ h => h) (Or.inl ⟨by rfl, ?_⟩) ?_ ?_
  rotate_left
  · intro w'
    go_simp
    with_reducible rfl
  rotate_left
  · simp only [Act.put, List.setIfInBounds_toArray, List.set_cons_zero, List.set_cons_succ, i64_w, i32_w]
    rfl
  refine take_ (i := 4) (N := some 41) (v := ?_) (a' := ?_) #[true, true, true, true, true, true, true, true, false, false, false] rfl rfl (by kernel_rfl) (fun _ _ _ h => h) (Or.inl ⟨by rfl, ?_⟩) hHeld ?_ ?_
  rotate_left
  · intro w' s0
    go_simp
    with_reducible rfl
  rotate_left
  · simp only [Act.put, List.setIfInBounds_toArray, List.set_cons_zero, List.set_cons_succ, i64_w, i32_w]
    rfl
  refine pure_ (i := 8) (N := some 45) (v := ?_) (a' := ?_) #[true, true, true, true, true, true, true, true, true, false, false] rfl rfl (by kernel_rfl) (fun _ _ _ h => h) (Or.inl ⟨by rfl, ?_⟩) ?_ ?_
  rotate_left
  · intro w'
    go_simp
    with_reducible rfl
  rotate_left
  · simp only [Act.put, List.setIfInBounds_toArray, List.set_cons_zero, List.set_cons_succ, i64_w, i32_w]
    rfl
  refine pure_ (i := 9) (N := some 46) (v := ?_) (a' := ?_) #[true, true, true, true, true, true, true, true, true, true, false] rfl rfl (by kernel_rfl) (fun _ _ _ h => h) (Or.inl ⟨by rfl, ?_⟩) ?_ ?_
  rotate_left
  · intro w'
    go_simp
    with_reducible rfl
  rotate_left
  · simp only [Act.put, List.setIfInBounds_toArray, List.set_cons_zero, List.set_cons_succ, i64_w, i32_w]
    rfl
  refine last_ (i := 10) (N := none) #[true, true, true, true, true, true, true, true, true, true, true] rfl rfl (by kernel_rfl) (by decide) (fun K hK => ?_)
  refine skip_ (w1 := ?_) (by rfl) rfl ?_ ?_
  rotate_left
  · go_simp
    rfl
  refine hK.out _ _ ?_
  clear hK K
  refine done_ (by kernel_rfl) ?_
  have H3 : Aside0 (Hw w _ (row (Kd.int .u8) 5 (.slice (some bd) (n + 8) c2) ((sealOf xs).set q y) * HP.emp)) := ⟨HPut.out y⟩
  clear H2 HPut hc hf hHeld f2 d1 d1' d3 d3' e1 e1' e2 e2' e3 e4 hq1
  go_wp2_with fail
  have ho := open_turned xs HB.out (by rw [HL.out]; exact hn) q v y hq4 VV.out ⟨F4.out, F5.out⟩ F3.out
  obtain ⟨ot, oe⟩ := open_bad _ (by rw [ho]; decide)
  have hbt : isB ((sealOf xs).set q y) := by
    intro x hx
    rcases List.mem_or_eq_of_mem_set hx with hx | hx
    · exact sealOf_isB xs HB.out x hx
    · subst hx; exact ⟨F4.out, F5.out⟩
  refine (fopen_ok (some bd) (n + 8) c2 _ (by omega) H3.out.row_C.2.1 H3.out (Ent.of_row (e := 5) (c := c2)) hbt).mono ?_
  rw [ho, ot, oe]
  rintro e w3 ⟨A3, n3, c3, rfl, h3⟩
  have hn0 := h3.row_C.1
  have hn3 : n3 = 0 := hn0
  clear hn0
  subst hn3
  have H4 := Aside0.mk h3
  clear h3 ho ot oe hbt H3
  go_wp2_with fail
  go_ret
  exact ⟨rfl, H4.out.below⟩
theorem frameTells_walk (A : Option Addr) (ca : Nat) (xs : List Int) (turn : Int) (w : World) (hA : (Kd.int .u8).C w A xs.length xs) (hca : xs.length ≤ ca) (sa : xs.length * 1 ≤ 140737488351232 ∧ ∀ x ∈ xs, (Lit.int .u8 x).wf = true) (ht : (Lit.int .i64 turn).wf = true) :
    Calls Try.prog 6 #[.slice A xs.length ca, .int .i64 turn] w fun e w' => e = .returned (.bool true) ∧ Below w.heap.size w w' := by
  have ht2 : -9223372036854775808 ≤ turn ∧ turn ≤ 9223372036854775807 := by
    simp [Lit.wf] at ht
    first | omega | (simp [IntKind.min, IntKind.max, IntKind.bits, IntKind.signed] at ht; omega)
  have hb := isB_of_wf' sa.2
  by_cases h1 : 16384 < xs.length
  · exact frameTells_out A _ ca xs turn w hA hca h1
  · by_cases h2 : turn < 32 ∨ (32 ≤ turn ∧ (xs.length : Int) + 8 ≤ turn / 8)
    · exact frameTells_far A _ ca xs turn w hA hca (by omega) hb h2 ht2
    · obtain ⟨b, rfl⟩ : ∃ b : Nat, turn = b := ⟨turn.toNat, by omega⟩
      exact frameTells_in A _ ca xs b w hA hca (by omega) hb (by omega) (by omega)
end Go.Proofs.Ytehbchggekbkkaa
