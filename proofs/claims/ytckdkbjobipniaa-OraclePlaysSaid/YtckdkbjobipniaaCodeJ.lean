/- The reference's bit, long, Texts. -/
import Derived.Test.YtckdkbjobipniaaCodeI
import Derived.Test.YtckdkbjobipniaaCA
set_option linter.unusedVariables false
set_option linter.unusedSimpArgs false
namespace Go.Proofs.Ytckdkbjobipniaa
open Go.RowKit Go.Proofs.YtckdkbjobipniaaW.PrintWords Go.Proofs.YtckdkbjobipniaaW.PrintLast
theorem refbit_ok (f : Bool) (w : World) :
    Calls Try.prog 72 #[.bool f] w fun e w' => e = .returned (.string (strOfNums [bitN f])) ∧ w' = w := by
  cases f
  · go_enter Try.func72, Try.ntmps72
    go_wp2_with fail
    go_ret
    exact ⟨rfl, rfl⟩
  · go_enter Try.func72, Try.ntmps72
    go_wp2_with fail
    go_ret
    exact ⟨rfl, rfl⟩
def LongPost (w : World) (t : Tup) (e : Ending) (w' : World) : Prop := ∃ b, e = .returned (.bool b) ∧ (b = true ↔ ¬ fitsT t) ∧ Below w.heap.size w w'
theorem LongPost.no {w w' : World} {t : Tup} {e : Ending} (he : e = .returned (.bool false)) (h : fitsT t) (hb : Below w.heap.size w w') : LongPost w t e w' := ⟨false, he, ⟨(fun h => nomatch h), fun h2 => absurd h h2⟩, hb⟩
theorem LongPost.yes {w w' : World} {t : Tup} {e : Ending} (he : e = .returned (.bool true)) (h : ¬ fitsT t) (hb : Below w.heap.size w w') : LongPost w t e w' := ⟨true, he, ⟨fun _ => h, fun _ => rfl⟩, hb⟩
set_option maxHeartbeats 1600000 in
theorem reflong_ok (o r u : ByteArray) (w : World) :
    Calls Try.prog 73 #[.agg #[.string o, .string r, .string u]] w fun e w' => LongPost w (o, r, u) e w' := by
  have H1 := Aside0.mk ((Hw.start w).alloc (.cells #[.string o, .string r, .string u] 133))
  have k0 := H1.out.cellAt w.heap.size 0 (v := .string o) rfl
  have k1 := H1.out.cellAt w.heap.size 1 (v := .string r) rfl
  have k2 := H1.out.cellAt w.heap.size 2 (v := .string u) rfl
  obtain ⟨a, ha⟩ : ∃ a, o.size = a := ⟨_, rfl⟩
  obtain ⟨b, hb⟩ : ∃ b, r.size = b := ⟨_, rfl⟩
  obtain ⟨c, hc⟩ : ∃ c, u.size = c := ⟨_, rfl⟩
  have NO : Aside0 (¬ (a ≤ 128 ∧ b ≤ 128 ∧ c ≤ 128) → ¬ fitsT (o, r, u)) := ⟨fun h hf => h (by obtain ⟨h1, h2, h3⟩ := hf; exact ⟨by rw [← ha]; exact h1, by rw [← hb]; exact h2, by rw [← hc]; exact h3⟩)⟩
  have YES : Aside0 ((a ≤ 128 ∧ b ≤ 128 ∧ c ≤ 128) → fitsT (o, r, u)) := ⟨fun h => ⟨by rw [show (o, r, u).1.size = a from ha]; exact h.1, by rw [show (o, r, u).2.1.size = b from hb]; exact h.2.1, by rw [show (o, r, u).2.2.size = c from hc]; exact h.2.2⟩⟩
  by_cases h1 : a ≤ 128
  · have d1 : decide ((128 : Int) < a) = false := decide_eq_false (by omega)
    have d1' : decide (128 < a) = false := decide_eq_false (by omega)
    by_cases h2 : b ≤ 128
    · have d2 : decide ((128 : Int) < b) = false := decide_eq_false (by omega)
      have d2' : decide (128 < b) = false := decide_eq_false (by omega)
      by_cases h3 : c ≤ 128
      · have d3 : decide ((128 : Int) < c) = false := decide_eq_false (by omega)
        have d3' : decide (128 < c) = false := decide_eq_false (by omega)
        have Y := Aside0.mk (YES.out ⟨h1, h2, h3⟩)
        clear NO YES h1 h2 h3
        go_enter Try.func73, Try.ntmps73
        go_wp2_with fail
        go_ret
        exact LongPost.no rfl Y.out H1.out.below
      · have d3 : decide ((128 : Int) < c) = true := decide_eq_true (by omega)
        have d3' : decide (128 < c) = true := decide_eq_true (by omega)
        have Y := Aside0.mk (NO.out (fun h => h3 h.2.2))
        clear NO YES h1 h2 h3
        go_enter Try.func73, Try.ntmps73
        go_wp2_with fail
        go_ret
        exact LongPost.yes rfl Y.out H1.out.below
    · have d2 : decide ((128 : Int) < b) = true := decide_eq_true (by omega)
      have d2' : decide (128 < b) = true := decide_eq_true (by omega)
      have Y := Aside0.mk (NO.out (fun h => h2 h.2.1))
      clear NO YES h1 h2
      go_enter Try.func73, Try.ntmps73
      go_wp2_with fail
      go_ret
      exact LongPost.yes rfl Y.out H1.out.below
  · have d1 : decide ((128 : Int) < a) = true := decide_eq_true (by omega)
    have d1' : decide (128 < a) = true := decide_eq_true (by omega)
    have Y := Aside0.mk (NO.out (fun h => h1 h.1))
    clear NO YES h1
    go_enter Try.func73, Try.ntmps73
    go_wp2_with fail
    go_ret
    exact LongPost.yes rfl Y.out H1.out.below
set_option maxHeartbeats 3200000 in
set_option maxRecDepth 100000 in
theorem reftexts_ok (o r u : ByteArray) (h1 : o.size ≤ 140737488351232) (h2 : r.size ≤ 140737488351232) (h3 : u.size ≤ 140737488351232) (w : World) :
    Calls Try.prog 74 #[.agg #[.string o, .string r, .string u]] w fun e w' => e = .returned (.string (strOfNums (encT (o, r, u)))) ∧ Below w.heap.size w w' := by
  have H1 := Aside0.mk ((Hw.start w).alloc (.cells #[.string o, .string r, .string u] 133)).drew
  have k0 := H1.out.cellAt w.heap.size 0 (v := .string o) rfl
  have k1 := H1.out.cellAt w.heap.size 1 (v := .string r) rfl
  have k2 := H1.out.cellAt w.heap.size 2 (v := .string u) rfl
  obtain ⟨a, ha⟩ : ∃ a, o.size = a := ⟨_, rfl⟩
  obtain ⟨b, hb⟩ : ∃ b, r.size = b := ⟨_, rfl⟩
  obtain ⟨c, hc⟩ : ∃ c, u.size = c := ⟨_, rfl⟩
  rw [ha] at h1
  rw [hb] at h2
  rw [hc] at h3
  have ia : i64r (a : Int) := by unfold i64r; omega
  have ib : i64r (b : Int) := by unfold i64r; omega
  have ic : i64r (c : Int) := by unfold i64r; omega
  have RA := Aside0.mk (refint_ok a ia)
  have RB := Aside0.mk (refint_ok b ib)
  have RC := Aside0.mk (refint_ok c ic)
  obtain ⟨x, hx⟩ : ∃ x, x = strOfNums (encI a) := ⟨_, rfl⟩
  obtain ⟨y, hy⟩ : ∃ y, y = strOfNums (encI b) := ⟨_, rfl⟩
  obtain ⟨z, hz⟩ : ∃ z, z = strOfNums (encI c) := ⟨_, rfl⟩
  rw [← hx] at RA
  rw [← hy] at RB
  rw [← hz] at RC
  have FO := Aside0.mk (show x ++ o ++ y ++ r ++ z ++ u = strOfNums (encT (o, r, u)) by
    unfold encT
    simp only [tx_append, strOf_numsOf]
    rw [ha, hb, hc, ← hx, ← hy, ← hz]
    simp only [ByteArray.append_assoc])
  obtain ⟨xa, hxa, hxa1⟩ : ∃ n, x.size = n ∧ n ≤ 10 := ⟨_, rfl, by rw [hx, tx_size]; exact (encI_len a ia).2⟩
  obtain ⟨ya, hya, hya1⟩ : ∃ n, y.size = n ∧ n ≤ 10 := ⟨_, rfl, by rw [hy, tx_size]; exact (encI_len b ib).2⟩
  obtain ⟨za, hza, hza1⟩ : ∃ n, z.size = n ∧ n ≤ 10 := ⟨_, rfl, by rw [hz, tx_size]; exact (encI_len c ic).2⟩
  have n1 : ¬ 9223372036854775807 < xa + a := by omega
  have n2 : ¬ 9223372036854775807 < xa + a + ya := by omega
  have n3 : ¬ 9223372036854775807 < xa + a + ya + b := by omega
  have n4 : ¬ 9223372036854775807 < xa + a + ya + b + za := by omega
  have n5 : ¬ 9223372036854775807 < xa + a + ya + b + za + c := by omega
  clear hx hy hz ia ib ic h1 h2 h3 hxa1 hya1 hza1
  go_enter Try.func74, Try.ntmps74
  go_upto_region 1 with fail
  refine start_ (n := 24) (S := fun w' => w'.cell? ⟨w.heap.size, 0, none⟩ = some (.string o) ∧ w'.cell? ⟨w.heap.size, 1, none⟩ = some (.string r) ∧ w'.cell? ⟨w.heap.size, 2, none⟩ = some (.string u)) (ds := []) #[false, false, false, false, false, false, false, false, false, false, false, false, false, false, false, false, false, false, false, false, false, false, false, false] (by kernel_rfl) rfl rfl ⟨k0, k1, k2⟩ (fun hHeld => ?_)
  refine pure_ (i := 0) (N := some 3) (v := ?_) (a' := ?_) #[true, false, false, false, false, false, false, false, false, false, false, false, false, false, false, false, false, false, false, false, false, false, false, false] rfl rfl (by kernel_rfl) (fun _ _ _ h => h) (Or.inl ⟨by rfl, ?_⟩) ?_ ?_
  rotate_left
  · intro w'
    go_simp
    with_reducible rfl
  rotate_left
  · simp only [Act.put, List.setIfInBounds_toArray, List.set_cons_zero, List.set_cons_succ, i64_w, i32_w]
    rfl
  refine pure_ (i := 4) (N := some 7) (v := ?_) (a' := ?_) #[true, false, false, false, true, false, false, false, false, false, false, false, false, false, false, false, false, false, false, false, false, false, false, false] rfl rfl (by kernel_rfl) (fun _ _ _ h => h) (Or.inl ⟨by rfl, ?_⟩) ?_ ?_
  rotate_left
  · intro w'
    go_simp
    with_reducible rfl
  rotate_left
  · simp only [Act.put, List.setIfInBounds_toArray, List.set_cons_zero, List.set_cons_succ, i64_w, i32_w]
    rfl
  refine pure_ (i := 7) (N := some 10) (v := ?_) (a' := ?_) #[true, false, false, false, true, false, false, true, false, false, false, false, false, false, false, false, false, false, false, false, false, false, false, false] rfl rfl (by kernel_rfl) (fun _ _ _ h => h) (Or.inl ⟨by rfl, ?_⟩) ?_ ?_
  rotate_left
  · intro w'
    go_simp
    with_reducible rfl
  rotate_left
  · simp only [Act.put, List.setIfInBounds_toArray, List.set_cons_zero, List.set_cons_succ, i64_w, i32_w]
    rfl
  refine pure_ (i := 12) (N := some 15) (v := ?_) (a' := ?_) #[true, false, false, false, true, false, false, true, false, false, false, false, true, false, false, false, false, false, false, false, false, false, false, false] rfl rfl (by kernel_rfl) (fun _ _ _ h => h) (Or.inl ⟨by rfl, ?_⟩) ?_ ?_
  rotate_left
  · intro w'
    go_simp
    with_reducible rfl
  rotate_left
  · simp only [Act.put, List.setIfInBounds_toArray, List.set_cons_zero, List.set_cons_succ, i64_w, i32_w]
    rfl
  refine pure_ (i := 15) (N := some 18) (v := ?_) (a' := ?_) #[true, false, false, false, true, false, false, true, false, false, false, false, true, false, false, true, false, false, false, false, false, false, false, false] rfl rfl (by kernel_rfl) (fun _ _ _ h => h) (Or.inl ⟨by rfl, ?_⟩) ?_ ?_
  rotate_left
  · intro w'
    go_simp
    with_reducible rfl
  rotate_left
  · simp only [Act.put, List.setIfInBounds_toArray, List.set_cons_zero, List.set_cons_succ, i64_w, i32_w]
    rfl
  refine pure_ (i := 20) (N := some 23) (v := ?_) (a' := ?_) #[true, false, false, false, true, false, false, true, false, false, false, false, true, false, false, true, false, false, false, false, true, false, false, false] rfl rfl (by kernel_rfl) (fun _ _ _ h => h) (Or.inl ⟨by rfl, ?_⟩) ?_ ?_
  rotate_left
  · intro w'
    go_simp
    with_reducible rfl
  rotate_left
  · simp only [Act.put, List.setIfInBounds_toArray, List.set_cons_zero, List.set_cons_succ, i64_w, i32_w]
    rfl
  refine take_ (i := 1) (N := some 4) (v := ?_) (a' := ?_) #[true, true, false, false, true, false, false, true, false, false, false, false, true, false, false, true, false, false, false, false, true, false, false, false] rfl rfl (by kernel_rfl) (fun _ _ _ h => h) (Or.inl ⟨by rfl, ?_⟩) hHeld ?_ ?_
  rotate_left
  · rintro w' ⟨s0, s1, s2⟩
    go_simp
    with_reducible rfl
  rotate_left
  · simp only [Act.put, List.setIfInBounds_toArray, List.set_cons_zero, List.set_cons_succ, i64_w, i32_w]
    rfl
  refine pure_ (i := 2) (N := some 5) (v := ?_) (a' := ?_) #[true, true, true, false, true, false, false, true, false, false, false, false, true, false, false, true, false, false, false, false, true, false, false, false] rfl rfl (by kernel_rfl) (fun _ _ _ h => h) (Or.inl ⟨by rfl, ?_⟩) ?_ ?_
  rotate_left
  · intro w'
    go_simp
    with_reducible rfl
  rotate_left
  · simp only [Act.put, List.setIfInBounds_toArray, List.set_cons_zero, List.set_cons_succ, i64_w, i32_w]
    rfl
  refine take_ (i := 5) (N := some 8) (v := ?_) (a' := ?_) #[true, true, true, false, true, true, false, true, false, false, false, false, true, false, false, true, false, false, false, false, true, false, false, false] rfl rfl (by kernel_rfl) (fun _ _ _ h => h) (Or.inl ⟨by rfl, ?_⟩) hHeld ?_ ?_
  rotate_left
  · rintro w' ⟨s0, s1, s2⟩
    go_simp
    with_reducible rfl
  rotate_left
  · simp only [Act.put, List.setIfInBounds_toArray, List.set_cons_zero, List.set_cons_succ, i64_w, i32_w]
    rfl
  refine take_ (i := 8) (N := some 11) (v := ?_) (a' := ?_) #[true, true, true, false, true, true, false, true, true, false, false, false, true, false, false, true, false, false, false, false, true, false, false, false] rfl rfl (by kernel_rfl) (fun _ _ _ h => h) (Or.inl ⟨by rfl, ?_⟩) hHeld ?_ ?_
  rotate_left
  · rintro w' ⟨s0, s1, s2⟩
    go_simp
    with_reducible rfl
  rotate_left
  · simp only [Act.put, List.setIfInBounds_toArray, List.set_cons_zero, List.set_cons_succ, i64_w, i32_w]
    rfl
  refine pure_ (i := 9) (N := some 12) (v := ?_) (a' := ?_) #[true, true, true, false, true, true, false, true, true, true, false, false, true, false, false, true, false, false, false, false, true, false, false, false] rfl rfl (by kernel_rfl) (fun _ _ _ h => h) (Or.inl ⟨by rfl, ?_⟩) ?_ ?_
  rotate_left
  · intro w'
    go_simp
    with_reducible rfl
  rotate_left
  · simp only [Act.put, List.setIfInBounds_toArray, List.set_cons_zero, List.set_cons_succ, i64_w, i32_w]
    rfl
  refine take_ (i := 13) (N := some 16) (v := ?_) (a' := ?_) #[true, true, true, false, true, true, false, true, true, true, false, false, true, true, false, true, false, false, false, false, true, false, false, false] rfl rfl (by kernel_rfl) (fun _ _ _ h => h) (Or.inl ⟨by rfl, ?_⟩) hHeld ?_ ?_
  rotate_left
  · rintro w' ⟨s0, s1, s2⟩
    go_simp
    with_reducible rfl
  rotate_left
  · simp only [Act.put, List.setIfInBounds_toArray, List.set_cons_zero, List.set_cons_succ, i64_w, i32_w]
    rfl
  refine take_ (i := 16) (N := some 19) (v := ?_) (a' := ?_) #[true, true, true, false, true, true, false, true, true, true, false, false, true, true, false, true, true, false, false, false, true, false, false, false] rfl rfl (by kernel_rfl) (fun _ _ _ h => h) (Or.inl ⟨by rfl, ?_⟩) hHeld ?_ ?_
  rotate_left
  · rintro w' ⟨s0, s1, s2⟩
    go_simp
    with_reducible rfl
  rotate_left
  · simp only [Act.put, List.setIfInBounds_toArray, List.set_cons_zero, List.set_cons_succ, i64_w, i32_w]
    rfl
  refine pure_ (i := 17) (N := some 20) (v := ?_) (a' := ?_) #[true, true, true, false, true, true, false, true, true, true, false, false, true, true, false, true, true, true, false, false, true, false, false, false] rfl rfl (by kernel_rfl) (fun _ _ _ h => h) (Or.inl ⟨by rfl, ?_⟩) ?_ ?_
  rotate_left
  · intro w'
    go_simp
    with_reducible rfl
  rotate_left
  · simp only [Act.put, List.setIfInBounds_toArray, List.set_cons_zero, List.set_cons_succ, i64_w, i32_w]
    rfl
  refine take_ (i := 21) (N := some 24) (v := ?_) (a' := ?_) #[true, true, true, false, true, true, false, true, true, true, false, false, true, true, false, true, true, true, false, false, true, true, false, false] rfl rfl (by kernel_rfl) (fun _ _ _ h => h) (Or.inl ⟨by rfl, ?_⟩) hHeld ?_ ?_
  rotate_left
  · rintro w' ⟨s0, s1, s2⟩
    go_simp
    with_reducible rfl
  rotate_left
  · simp only [Act.put, List.setIfInBounds_toArray, List.set_cons_zero, List.set_cons_succ, i64_w, i32_w]
    rfl
  refine one_ (i := 3) (N := some 6) #[true, true, true, true, true, true, false, true, true, true, false, false, true, true, false, true, true, true, false, false, true, true, false, false] rfl rfl (by kernel_rfl) (by decide) (fun K hK => ?_)
  refine goes_ Try.func71 (by kernel_rfl) rfl #[.int .i64 a] (by rfl) rfl rfl (by simp only [List.map_toArray, List.map_cons, List.map_nil]; rfl) ?_
  with_reducible refine (RA.out _).mono ?_
  rintro e w1 ⟨rfl, hbel⟩
  refine ⟨_, rfl, ?_⟩
  have H2 := Aside0.mk (H1.out.from_below hbel)
  clear hbel
  have p0 := H2.out.cellAt w.heap.size 0 (v := .string o) rfl
  have p1 := H2.out.cellAt w.heap.size 1 (v := .string r) rfl
  have p2 := H2.out.cellAt w.heap.size 2 (v := .string u) rfl
  refine hK.out _ _ ⟨p0, p1, p2⟩ (fun hHeld => ?_)
  clear hK K
  refine norm_ (a' := ?_) ?_ ?_
  rotate_left
  · show Act.put _ (some 6) _ = _
    simp only [Act.put, List.setIfInBounds_toArray, List.set_cons_zero, List.set_cons_succ, i64_w, i32_w]
    rfl
  refine pure_ (i := 6) (N := some 9) (v := ?_) (a' := ?_) #[true, true, true, true, true, true, true, true, true, true, false, false, true, true, false, true, true, true, false, false, true, true, false, false] rfl rfl (by kernel_rfl) (fun _ _ _ h => h) (Or.inl ⟨by rfl, ?_⟩) ?_ ?_
  rotate_left
  · intro w'
    go_simp
    with_reducible rfl
  rotate_left
  · simp only [Act.put, List.setIfInBounds_toArray, List.set_cons_zero, List.set_cons_succ, i64_w, i32_w]
    rfl
  refine one_ (i := 10) (N := some 13) #[true, true, true, true, true, true, true, true, true, true, true, false, true, true, false, true, true, true, false, false, true, true, false, false] rfl rfl (by kernel_rfl) (by decide) (fun K hK => ?_)
  refine goes_ Try.func71 (by kernel_rfl) rfl #[.int .i64 b] (by rfl) rfl rfl (by simp only [List.map_toArray, List.map_cons, List.map_nil]; rfl) ?_
  with_reducible refine (RB.out _).mono ?_
  rintro e w2 ⟨rfl, hbel⟩
  refine ⟨_, rfl, ?_⟩
  have H3 := Aside0.mk (H2.out.from_below hbel)
  clear hbel
  have q0 := H3.out.cellAt w.heap.size 0 (v := .string o) rfl
  have q1 := H3.out.cellAt w.heap.size 1 (v := .string r) rfl
  have q2 := H3.out.cellAt w.heap.size 2 (v := .string u) rfl
  refine hK.out _ _ ⟨q0, q1, q2⟩ (fun hHeld => ?_)
  clear hK K
  refine norm_ (a' := ?_) ?_ ?_
  rotate_left
  · show Act.put _ (some 13) _ = _
    simp only [Act.put, List.setIfInBounds_toArray, List.set_cons_zero, List.set_cons_succ, i64_w, i32_w]
    rfl
  refine pure_ (i := 11) (N := some 14) (v := ?_) (a' := ?_) #[true, true, true, true, true, true, true, true, true, true, true, true, true, true, false, true, true, true, false, false, true, true, false, false] rfl rfl (by kernel_rfl) (fun _ _ _ h => h) (Or.inl ⟨by rfl, ?_⟩) ?_ ?_
  rotate_left
  · intro w'
    go_simp
    with_reducible rfl
  rotate_left
  · simp only [Act.put, List.setIfInBounds_toArray, List.set_cons_zero, List.set_cons_succ, i64_w, i32_w]
    rfl
  refine pure_ (i := 14) (N := some 17) (v := ?_) (a' := ?_) #[true, true, true, true, true, true, true, true, true, true, true, true, true, true, true, true, true, true, false, false, true, true, false, false] rfl rfl (by kernel_rfl) (fun _ _ _ h => h) (Or.inl ⟨by rfl, ?_⟩) ?_ ?_
  rotate_left
  · intro w'
    go_simp
    with_reducible rfl
  rotate_left
  · simp only [Act.put, List.setIfInBounds_toArray, List.set_cons_zero, List.set_cons_succ, i64_w, i32_w]
    rfl
  refine one_ (i := 18) (N := some 21) #[true, true, true, true, true, true, true, true, true, true, true, true, true, true, true, true, true, true, true, false, true, true, false, false] rfl rfl (by kernel_rfl) (by decide) (fun K hK => ?_)
  refine goes_ Try.func71 (by kernel_rfl) rfl #[.int .i64 c] (by rfl) rfl rfl (by simp only [List.map_toArray, List.map_cons, List.map_nil]; rfl) ?_
  with_reducible refine (RC.out _).mono ?_
  rintro e w3 ⟨rfl, hbel⟩
  refine ⟨_, rfl, ?_⟩
  have H4 := Aside0.mk (H3.out.from_below hbel)
  clear hbel
  have r0 := H4.out.cellAt w.heap.size 0 (v := .string o) rfl
  have r1 := H4.out.cellAt w.heap.size 1 (v := .string r) rfl
  have r2 := H4.out.cellAt w.heap.size 2 (v := .string u) rfl
  refine hK.out _ _ ⟨r0, r1, r2⟩ (fun hHeld => ?_)
  clear hK K
  refine norm_ (a' := ?_) ?_ ?_
  rotate_left
  · show Act.put _ (some 21) _ = _
    simp only [Act.put, List.setIfInBounds_toArray, List.set_cons_zero, List.set_cons_succ, i64_w, i32_w]
    rfl
  refine pure_ (i := 19) (N := some 22) (v := ?_) (a' := ?_) #[true, true, true, true, true, true, true, true, true, true, true, true, true, true, true, true, true, true, true, true, true, true, false, false] rfl rfl (by kernel_rfl) (fun _ _ _ h => h) (Or.inl ⟨by rfl, ?_⟩) ?_ ?_
  rotate_left
  · intro w'
    go_simp
    with_reducible rfl
  rotate_left
  · simp only [Act.put, List.setIfInBounds_toArray, List.set_cons_zero, List.set_cons_succ, i64_w, i32_w]
    rfl
  refine pure_ (i := 22) (N := some 25) (v := ?_) (a' := ?_) #[true, true, true, true, true, true, true, true, true, true, true, true, true, true, true, true, true, true, true, true, true, true, true, false] rfl rfl (by kernel_rfl) (fun _ _ _ h => h) (Or.inl ⟨by rfl, ?_⟩) ?_ ?_
  rotate_left
  · intro w'
    go_simp
    with_reducible rfl
  rotate_left
  · simp only [Act.put, List.setIfInBounds_toArray, List.set_cons_zero, List.set_cons_succ, i64_w, i32_w]
    rfl
  refine pure_ (i := 23) (N := some 2) (v := ?_) (a' := ?_) #[true, true, true, true, true, true, true, true, true, true, true, true, true, true, true, true, true, true, true, true, true, true, true, true] rfl rfl (by kernel_rfl) (fun _ _ _ h => h) (Or.inl ⟨by rfl, ?_⟩) ?_ ?_
  rotate_left
  · intro w'
    go_simp
    with_reducible rfl
  rotate_left
  · simp only [Act.put, List.setIfInBounds_toArray, List.set_cons_zero, List.set_cons_succ, i64_w, i32_w]
    rfl
  refine done_ (by kernel_rfl) ?_
  go_wp2_with fail
  go_ret
  exact ⟨by rw [← FO.out]; rfl, H4.out.below⟩
end Go.Proofs.Ytckdkbjobipniaa
