/- Structs compared: a change, a condition, a row. Printed by wip/gen/codeka.py. -/
import Derived.Test.YtckdkbjobipniaaCA
set_option linter.unusedVariables false
set_option linter.unusedSimpArgs false
namespace Go.Proofs.Ytckdkbjobipniaa
open Go.RowKit Go.Proofs.YtckdkbjobipniaaW.PrintWords Go.Proofs.YtckdkbjobipniaaW.PrintLast
theorem nbeq {α : Type} [BEq α] [LawfulBEq α] {x y : α} (h : x ≠ y) : (x == y) = false := by simpa using h
set_option maxHeartbeats 1600000 in
theorem mut_neq (x0 y0 : Bool) (x1 y1 : ByteArray) (x2 y2 : ByteArray) (x3 y3 : ByteArray) (W : World) : (binOp .neq 135 (.agg #[.bool x0, .string x1, .string x2, .string x3]) (.agg #[.bool y0, .string y1, .string y2, .string y3])).run Try.prog W = .ok (.bool (decide (¬ (x0 = y0 ∧ x1 = y1 ∧ x2 = y2 ∧ x3 = y3)))) W := by
  by_cases h0 : x0 = y0
  · subst h0
    by_cases h1 : x1 = y1
    · subst h1
      by_cases h2 : x2 = y2
      · subst h2
        by_cases h3 : x3 = y3
        · subst h3
          rw [decide_eq_false (by simp)]
          go_simp
          done
        · have g := mt tx_toList.mp h3
          rw [decide_eq_true (by simp [h3])]
          go_simp
          done
      · have g := mt tx_toList.mp h2
        rw [decide_eq_true (by simp [h2])]
        go_simp
        done
    · have g := mt tx_toList.mp h1
      rw [decide_eq_true (by simp [h1])]
      go_simp
      done
  · have g := nbeq h0
    rw [decide_eq_true (by simp [h0])]
    go_simp
    done
set_option maxHeartbeats 1600000 in
theorem cond_neq (x0 y0 : Bool) (x1 y1 : ByteArray) (x2 y2 : ByteArray) (x3 y3 : ByteArray) (W : World) : (binOp .neq 143 (.agg #[.bool x0, .string x1, .string x2, .string x3]) (.agg #[.bool y0, .string y1, .string y2, .string y3])).run Try.prog W = .ok (.bool (decide (¬ (x0 = y0 ∧ x1 = y1 ∧ x2 = y2 ∧ x3 = y3)))) W := by
  by_cases h0 : x0 = y0
  · subst h0
    by_cases h1 : x1 = y1
    · subst h1
      by_cases h2 : x2 = y2
      · subst h2
        by_cases h3 : x3 = y3
        · subst h3
          rw [decide_eq_false (by simp)]
          go_simp
          done
        · have g := mt tx_toList.mp h3
          rw [decide_eq_true (by simp [h3])]
          go_simp
          done
      · have g := mt tx_toList.mp h2
        rw [decide_eq_true (by simp [h2])]
        go_simp
        done
    · have g := mt tx_toList.mp h1
      rw [decide_eq_true (by simp [h1])]
      go_simp
      done
  · have g := nbeq h0
    rw [decide_eq_true (by simp [h0])]
    go_simp
    done
set_option maxHeartbeats 1600000 in
theorem row_neq (x0 y0 : ByteArray) (x1 y1 : ByteArray) (x2 y2 : ByteArray) (x3 y3 : Int) (x4 y4 : Int) (W : World) : (binOp .neq 145 (.agg #[.string x0, .string x1, .string x2, .int .i64 x3, .int .i64 x4]) (.agg #[.string y0, .string y1, .string y2, .int .i64 y3, .int .i64 y4])).run Try.prog W = .ok (.bool (decide (¬ (x0 = y0 ∧ x1 = y1 ∧ x2 = y2 ∧ x3 = y3 ∧ x4 = y4)))) W := by
  by_cases h0 : x0 = y0
  · subst h0
    by_cases h1 : x1 = y1
    · subst h1
      by_cases h2 : x2 = y2
      · subst h2
        by_cases h3 : x3 = y3
        · subst h3
          by_cases h4 : x4 = y4
          · subst h4
            rw [decide_eq_false (by simp)]
            go_simp
            done
          · have g := nbeq h4
            rw [decide_eq_true (by simp [h4])]
            go_simp
            done
        · have g := nbeq h3
          rw [decide_eq_true (by simp [h3])]
          go_simp
          done
      · have g := mt tx_toList.mp h2
        rw [decide_eq_true (by simp [h2])]
        go_simp
        done
    · have g := mt tx_toList.mp h1
      rw [decide_eq_true (by simp [h1])]
      go_simp
      done
  · have g := mt tx_toList.mp h0
    rw [decide_eq_true (by simp [h0])]
    go_simp
    done
theorem mut_same (x : Mut) (W : World) : (binOp .neq 135 (.agg #[.bool x.1, .string x.2.1, .string x.2.2.1, .string x.2.2.2]) (.agg #[.bool x.1, .string x.2.1, .string x.2.2.1, .string x.2.2.2])).run Try.prog W = .ok (.bool false) W := by
  rw [mut_neq, decide_eq_false (by simp)]
theorem mut_diff (x y : Mut) (h : x ≠ y) (W : World) : (binOp .neq 135 (.agg #[.bool x.1, .string x.2.1, .string x.2.2.1, .string x.2.2.2]) (.agg #[.bool y.1, .string y.2.1, .string y.2.2.1, .string y.2.2.2])).run Try.prog W = .ok (.bool true) W := by
  have hc : ¬ (x.1 = y.1 ∧ x.2.1 = y.2.1 ∧ x.2.2.1 = y.2.2.1 ∧ x.2.2.2 = y.2.2.2) := by
    intro hh
    obtain ⟨a, b, c, d⟩ := x
    obtain ⟨a', b', c', d'⟩ := y
    obtain ⟨rfl, rfl, rfl, rfl⟩ := hh
    exact h rfl
  rw [mut_neq, decide_eq_true hc]
theorem cond_same (x : Mut) (W : World) : (binOp .neq 143 (.agg #[.bool x.1, .string x.2.1, .string x.2.2.1, .string x.2.2.2]) (.agg #[.bool x.1, .string x.2.1, .string x.2.2.1, .string x.2.2.2])).run Try.prog W = .ok (.bool false) W := by
  rw [cond_neq, decide_eq_false (by simp)]
theorem cond_diff (x y : Mut) (h : x ≠ y) (W : World) : (binOp .neq 143 (.agg #[.bool x.1, .string x.2.1, .string x.2.2.1, .string x.2.2.2]) (.agg #[.bool y.1, .string y.2.1, .string y.2.2.1, .string y.2.2.2])).run Try.prog W = .ok (.bool true) W := by
  have hc : ¬ (x.1 = y.1 ∧ x.2.1 = y.2.1 ∧ x.2.2.1 = y.2.2.1 ∧ x.2.2.2 = y.2.2.2) := by
    intro hh
    obtain ⟨a, b, c, d⟩ := x
    obtain ⟨a', b', c', d'⟩ := y
    obtain ⟨rfl, rfl, rfl, rfl⟩ := hh
    exact h rfl
  rw [cond_neq, decide_eq_true hc]
theorem row_same (x : Rw) (W : World) : (binOp .neq 145 (.agg #[.string x.1.1, .string x.1.2.1, .string x.1.2.2, .int .i64 x.2.1, .int .i64 x.2.2]) (.agg #[.string x.1.1, .string x.1.2.1, .string x.1.2.2, .int .i64 x.2.1, .int .i64 x.2.2])).run Try.prog W = .ok (.bool false) W := by
  rw [row_neq, decide_eq_false (by simp)]
theorem row_diff (x y : Rw) (h : x ≠ y) (W : World) : (binOp .neq 145 (.agg #[.string x.1.1, .string x.1.2.1, .string x.1.2.2, .int .i64 x.2.1, .int .i64 x.2.2]) (.agg #[.string y.1.1, .string y.1.2.1, .string y.1.2.2, .int .i64 y.2.1, .int .i64 y.2.2])).run Try.prog W = .ok (.bool true) W := by
  have hc : ¬ (x.1.1 = y.1.1 ∧ x.1.2.1 = y.1.2.1 ∧ x.1.2.2 = y.1.2.2 ∧ x.2.1 = y.2.1 ∧ x.2.2 = y.2.2) := by
    intro hh
    obtain ⟨⟨a, b, c⟩, d, e⟩ := x
    obtain ⟨⟨a', b', c'⟩, d', e'⟩ := y
    obtain ⟨rfl, rfl, rfl, rfl, rfl⟩ := hh
    exact h rfl
  rw [row_neq, decide_eq_true hc]
end Go.Proofs.Ytckdkbjobipniaa

/- The reference's Same: two messages alike. Printed by wip/gen/codesame.py. -/
set_option linter.unusedVariables false
set_option linter.unusedSimpArgs false
namespace Go.Proofs.Ytckdkbjobipniaa
open Go.RowKit Go.Proofs.YtckdkbjobipniaaW.PrintWords Go.Proofs.YtckdkbjobipniaaW.PrintLast
def SamePost (w : World) (m m' : Msg) (e : Ending) (w' : World) : Prop := ∃ b, e = .returned (.bool b) ∧ (b = true ↔ m = m') ∧ Below w.heap.size w w'
theorem SamePost.no {w w' : World} {m m' : Msg} {e : Ending} (he : e = .returned (.bool false)) (h : m ≠ m') (hb : Below w.heap.size w w') : SamePost w m m' e w' := ⟨false, he, ⟨(fun h => nomatch h), fun h2 => absurd h2 h⟩, hb⟩
theorem SamePost.yes {w w' : World} {m m' : Msg} {e : Ending} (he : e = .returned (.bool true)) (h : m = m') (hb : Below w.heap.size w w') : SamePost w m m' e w' := ⟨true, he, ⟨fun _ => h, fun _ => rfl⟩, hb⟩
set_option maxHeartbeats 12800000 in
set_option maxRecDepth 100000 in
theorem same_ok (k k' s s' d d' i i' r r' ep ep' sl sl' : Int) (f f' : Bool) (ns ns' : List Int) (ms ms' ps ps' : List Mut) (rs rs' : List Rw)
    (A1 A2 A3 A4 B1 B2 B3 B4 : Option Addr) (na1 na2 na3 na4 ca1 ca2 ca3 ca4 nb1 nb2 nb3 nb4 cb1 cb2 cb3 cb4 : Nat) (w : World)
    (hA : MsgC w ⟨k, s, d, i, r, ep, sl, f, ns, ms, ps, rs⟩ (A1, na1, ca1) (A2, na2, ca2) (A3, na3, ca3) (A4, na4, ca4)) (hB : MsgC w ⟨k', s', d', i', r', ep', sl', f', ns', ms', ps', rs'⟩ (B1, nb1, cb1) (B2, nb2, cb2) (B3, nb3, cb3) (B4, nb4, cb4)) :
    Calls Try.prog 16 #[.agg #[.int .i64 k, .int .i64 s, .int .i64 d, .int .i64 i, .int .i64 r, .int .i64 ep, .int .i64 sl, .bool f, .slice A1 na1 ca1, .slice A2 na2 ca2, .slice A3 na3 ca3, .slice A4 na4 ca4], .agg #[.int .i64 k', .int .i64 s', .int .i64 d', .int .i64 i', .int .i64 r', .int .i64 ep', .int .i64 sl', .bool f', .slice B1 nb1 cb1, .slice B2 nb2 cb2, .slice B3 nb3 cb3, .slice B4 nb4 cb4]] w fun e w' => SamePost w ⟨k, s, d, i, r, ep, sl, f, ns, ms, ps, rs⟩ ⟨k', s', d', i', r', ep', sl', f', ns', ms', ps', rs'⟩ e w' := by
  have Ca1 := Aside0.mk hA.c1
  have Ca2 := Aside0.mk hA.c2
  have Ca3 := Aside0.mk hA.c3
  have Ca4 := Aside0.mk hA.c4
  have Cb1 := Aside0.mk hB.c1
  have Cb2 := Aside0.mk hB.c2
  have Cb3 := Aside0.mk hB.c3
  have Cb4 := Aside0.mk hB.c4
  have H1 := Aside0.mk (((Hw.start w).alloc (.cells #[.int .i64 k, .int .i64 s, .int .i64 d, .int .i64 i, .int .i64 r, .int .i64 ep, .int .i64 sl, .bool f, .slice A1 na1 ca1, .slice A2 na2 ca2, .slice A3 na3 ca3, .slice A4 na4 ca4] 27)).alloc (.cells #[.int .i64 k', .int .i64 s', .int .i64 d', .int .i64 i', .int .i64 r', .int .i64 ep', .int .i64 sl', .bool f', .slice B1 nb1 cb1, .slice B2 nb2 cb2, .slice B3 nb3 cb3, .slice B4 nb4 cb4] 27))
  clear hA hB
  obtain ⟨p, hp⟩ : ∃ p, p = w.heap.size := ⟨_, rfl⟩
  go_enter Try.func16, Try.ntmps16
  have HB := Aside0.mk H1.out.below
  go_wp2_with fail
  all_goals first | (subst_vars; go_ret; exact SamePost.no rfl (fun h => by exfalso; simp [Msg.mk.injEq] at h; have z1 := Ca1.out.1; have z2 := Ca2.out.1; have z3 := Ca3.out.1; have z4 := Ca4.out.1; have y1 := Cb1.out.1; have y2 := Cb2.out.1; have y3 := Cb3.out.1; have y4 := Cb4.out.1; simp_all) HB.out) | skip
  obtain rfl : f = f' := by have h : (!f == f') = false := by assumption
                            first | (simpa using h) | (simp at h; omega)
  obtain rfl : na4 = nb4 := by have h : ((na4 : Int) != nb4) = false := by assumption
                               first | (simpa using h) | (simp at h; omega)
  obtain rfl : na1 = nb1 := by omega
  obtain rfl : na2 = nb2 := by omega
  obtain rfl : na3 = nb3 := by omega
  obtain rfl : k = k' := by assumption
  obtain rfl : s = s' := by assumption
  obtain rfl : d = d' := by assumption
  obtain rfl : i = i' := by assumption
  obtain rfl : r = r' := by assumption
  obtain rfl : ep = ep' := by assumption
  obtain rfl : sl = sl' := by assumption
  have m1 := Ca1.out.2.1
  have m2 := Ca2.out.2.1
  have m3 := Ca3.out.2.1
  have m4 := Ca4.out.2.1
  have H2 : Aside0 (Hw w _ (blk (w.heap.size + 1) (.cells #[.int .i64 k, .int .i64 s, .int .i64 d, .int .i64 i, .int .i64 r, .int .i64 ep, .int .i64 sl, .bool f, .slice B1 na1 cb1, .slice B2 na2 cb2, .slice B3 na3 cb3, .slice B4 na4 cb4] 27) * (blk w.heap.size (.cells #[.int .i64 k, .int .i64 s, .int .i64 d, .int .i64 i, .int .i64 r, .int .i64 ep, .int .i64 sl, .bool f, .slice A1 na1 ca1, .slice A2 na2 ca2, .slice A3 na3 ca3, .slice A4 na4 ca4] 27) * HP.emp))) := ⟨by have h := H1.out; rw [show (w.alloc (.cells #[.int .i64 k, .int .i64 s, .int .i64 d, .int .i64 i, .int .i64 r, .int .i64 ep, .int .i64 sl, .bool f, .slice A1 na1 ca1, .slice A2 na2 ca2, .slice A3 na3 ca3, .slice A4 na4 ca4] 27)).heap.size = w.heap.size + 1 from by simp only [World.alloc, Array.size_push]] at h; exact h⟩
  clear H1 HB hp
  have dne : (w.heap.size + 1 = w.heap.size) = False := by simp
  go_loopw [5] (fun z wr => ∃ j : Nat, j ≤ na1 ∧ z = .int .i64 j ∧ Aside0 (ns.take j = ns'.take j) ∧ Aside0 (Hw w wr (blk (w.heap.size + 1) (.cells #[.int .i64 k, .int .i64 s, .int .i64 d, .int .i64 i, .int .i64 r, .int .i64 ep, .int .i64 sl, .bool f, .slice B1 na1 cb1, .slice B2 na2 cb2, .slice B3 na3 cb3, .slice B4 na4 cb4] 27) * (blk w.heap.size (.cells #[.int .i64 k, .int .i64 s, .int .i64 d, .int .i64 i, .int .i64 r, .int .i64 ep, .int .i64 sl, .bool f, .slice A1 na1 ca1, .slice A2 na2 ca2, .slice A3 na3 ca3, .slice A4 na4 ca4] 27) * HP.emp)))) (fun z _ => na1 - (intOf z).toNat)
  case atStart => exact ⟨0, Nat.zero_le _, rfl, ⟨by simp⟩, H2⟩
  case round =>
    obtain ⟨j, hj, rfl, HT, HW⟩ := hrel
    have ka := HW.out.cellAt w.heap.size 8 (v := .slice A1 na1 ca1) rfl
    have kb := HW.out.cellAt (w.heap.size + 1) 8 (v := .slice B1 na1 cb1) rfl
    clear H2
    by_cases hlt : j < na1
    · obtain ⟨ad, x, rfl, hca, hxa⟩ := C_scalar_at (enc := Value.int .i64) (h1 := fun _ => rfl) (Kd.C_below Ca1.out HW.out.below) j hlt
      obtain ⟨bd, y, rfl, hcb, hxb⟩ := C_scalar_at (enc := Value.int .i64) (h1 := fun _ => rfl) (Kd.C_below Cb1.out HW.out.below) j hlt
      have HW2 := Aside0.mk (HW.out.drewN 1)
      by_cases hxy : x = y
      · subst hxy
        have TK := Aside0.mk (show ns.take (j + 1) = ns'.take (j + 1) by rw [take_snoc_of hxa.out, take_snoc_of hxb.out, HT.out])
        go_upto_region 8 with fail
        refine start_ (n := 11) (S := fun w' => w'.cell? ⟨w.heap.size, 8, none⟩ = some (.slice (some ad) na1 ca1) ∧ w'.cell? ⟨w.heap.size + 1, 8, none⟩ = some (.slice (some bd) na1 cb1) ∧ w'.cell? (ad.add j) = some (.int .i64 x) ∧ w'.cell? (bd.add j) = some (.int .i64 x)) (ds := []) #[false, false, false, false, false, false, false, false, false, false, false] (by kernel_rfl) rfl rfl ⟨ka, kb, hca, hcb⟩ (fun hHeld => ?_)
        refine pure_ (i := 0) (N := some 104) (v := ?_) (a' := ?_) #[true, false, false, false, false, false, false, false, false, false, false] rfl rfl (by kernel_rfl) (fun _ _ _ h => h) (Or.inl ⟨by rfl, ?_⟩) ?_ ?_
        rotate_left
        · intro w'
          go_simp
          with_reducible rfl
        rotate_left
        · simp only [Act.put, List.setIfInBounds_toArray, List.set_cons_zero, List.set_cons_succ, i64_w, i32_w]
          rfl
        refine pure_ (i := 2) (N := some 106) (v := ?_) (a' := ?_) #[true, false, true, false, false, false, false, false, false, false, false] rfl rfl (by kernel_rfl) (fun _ _ _ h => h) (Or.inl ⟨by rfl, ?_⟩) ?_ ?_
        rotate_left
        · intro w'
          go_simp
          with_reducible rfl
        rotate_left
        · simp only [Act.put, List.setIfInBounds_toArray, List.set_cons_zero, List.set_cons_succ, i64_w, i32_w]
          rfl
        refine pure_ (i := 5) (N := some 109) (v := ?_) (a' := ?_) #[true, false, true, false, false, true, false, false, false, false, false] rfl rfl (by kernel_rfl) (fun _ _ _ h => h) (Or.inl ⟨by rfl, ?_⟩) ?_ ?_
        rotate_left
        · intro w'
          go_simp
          with_reducible rfl
        rotate_left
        · simp only [Act.put, List.setIfInBounds_toArray, List.set_cons_zero, List.set_cons_succ, i64_w, i32_w]
          rfl
        refine pure_ (i := 7) (N := some 111) (v := ?_) (a' := ?_) #[true, false, true, false, false, true, false, true, false, false, false] rfl rfl (by kernel_rfl) (fun _ _ _ h => h) (Or.inl ⟨by rfl, ?_⟩) ?_ ?_
        rotate_left
        · intro w'
          go_simp
          with_reducible rfl
        rotate_left
        · simp only [Act.put, List.setIfInBounds_toArray, List.set_cons_zero, List.set_cons_succ, i64_w, i32_w]
          rfl
        refine take_ (i := 1) (N := some 105) (v := ?_) (a' := ?_) #[true, true, true, false, false, true, false, true, false, false, false] rfl rfl (by kernel_rfl) (fun _ _ _ h => h) (Or.inl ⟨by rfl, ?_⟩) hHeld ?_ ?_
        rotate_left
        · rintro w' ⟨s0, s1, s2, s3⟩
          go_simp
          with_reducible rfl
        rotate_left
        · simp only [Act.put, List.setIfInBounds_toArray, List.set_cons_zero, List.set_cons_succ, i64_w, i32_w]
          rfl
        refine pure_ (i := 3) (N := some 107) (v := ?_) (a' := ?_) #[true, true, true, true, false, true, false, true, false, false, false] rfl rfl (by kernel_rfl) (fun _ _ _ h => h) (Or.inl ⟨by rfl, ?_⟩) ?_ ?_
        rotate_left
        · intro w'
          go_simp
          with_reducible rfl
        rotate_left
        · simp only [Act.put, List.setIfInBounds_toArray, List.set_cons_zero, List.set_cons_succ, i64_w, i32_w]
          rfl
        refine take_ (i := 4) (N := some 108) (v := ?_) (a' := ?_) #[true, true, true, true, true, true, false, true, false, false, false] rfl rfl (by kernel_rfl) (fun _ _ _ h => h) (Or.inl ⟨by rfl, ?_⟩) hHeld ?_ ?_
        rotate_left
        · rintro w' ⟨s0, s1, s2, s3⟩
          go_simp
          with_reducible rfl
        rotate_left
        · simp only [Act.put, List.setIfInBounds_toArray, List.set_cons_zero, List.set_cons_succ, i64_w, i32_w]
          rfl
        refine take_ (i := 6) (N := some 110) (v := ?_) (a' := ?_) #[true, true, true, true, true, true, true, true, false, false, false] rfl rfl (by kernel_rfl) (fun _ _ _ h => h) (Or.inl ⟨by rfl, ?_⟩) hHeld ?_ ?_
        rotate_left
        · rintro w' ⟨s0, s1, s2, s3⟩
          go_simp
          with_reducible rfl
        rotate_left
        · simp only [Act.put, List.setIfInBounds_toArray, List.set_cons_zero, List.set_cons_succ, i64_w, i32_w]
          rfl
        refine pure_ (i := 8) (N := some 112) (v := ?_) (a' := ?_) #[true, true, true, true, true, true, true, true, true, false, false] rfl rfl (by kernel_rfl) (fun _ _ _ h => h) (Or.inl ⟨by rfl, ?_⟩) ?_ ?_
        rotate_left
        · intro w'
          go_simp
          with_reducible rfl
        rotate_left
        · simp only [Act.put, List.setIfInBounds_toArray, List.set_cons_zero, List.set_cons_succ, i64_w, i32_w]
          rfl
        refine take_ (i := 9) (N := some 113) (v := ?_) (a' := ?_) #[true, true, true, true, true, true, true, true, true, true, false] rfl rfl (by kernel_rfl) (fun _ _ _ h => h) (Or.inl ⟨by rfl, ?_⟩) hHeld ?_ ?_
        rotate_left
        · rintro w' ⟨s0, s1, s2, s3⟩
          go_simp
          with_reducible rfl
        rotate_left
        · simp only [Act.put, List.setIfInBounds_toArray, List.set_cons_zero, List.set_cons_succ, i64_w, i32_w]
          rfl
        refine pure_ (i := 10) (N := some 114) (v := ?_) (a' := ?_) #[true, true, true, true, true, true, true, true, true, true, true] rfl rfl (by kernel_rfl) (fun _ _ _ h => h) (Or.inl ⟨by rfl, ?_⟩) ?_ ?_
        rotate_left
        · intro w'
          go_simp
          with_reducible rfl
        rotate_left
        · simp only [Act.put, List.setIfInBounds_toArray, List.set_cons_zero, List.set_cons_succ, i64_w, i32_w]
          rfl
        refine done_ (by kernel_rfl) ?_
        clear hHeld
        go_wp2_with fail
        go_roundw
        case rel => exact ⟨j + 1, by omega, by go_num, TK, HW2⟩
        case measure => simp [intOf]; omega
      · skip
        go_upto_region 8 with fail
        refine start_ (n := 11) (S := fun w' => w'.cell? ⟨w.heap.size, 8, none⟩ = some (.slice (some ad) na1 ca1) ∧ w'.cell? ⟨w.heap.size + 1, 8, none⟩ = some (.slice (some bd) na1 cb1) ∧ w'.cell? (ad.add j) = some (.int .i64 x) ∧ w'.cell? (bd.add j) = some (.int .i64 y)) (ds := []) #[false, false, false, false, false, false, false, false, false, false, false] (by kernel_rfl) rfl rfl ⟨ka, kb, hca, hcb⟩ (fun hHeld => ?_)
        refine pure_ (i := 0) (N := some 104) (v := ?_) (a' := ?_) #[true, false, false, false, false, false, false, false, false, false, false] rfl rfl (by kernel_rfl) (fun _ _ _ h => h) (Or.inl ⟨by rfl, ?_⟩) ?_ ?_
        rotate_left
        · intro w'
          go_simp
          with_reducible rfl
        rotate_left
        · simp only [Act.put, List.setIfInBounds_toArray, List.set_cons_zero, List.set_cons_succ, i64_w, i32_w]
          rfl
        refine pure_ (i := 2) (N := some 106) (v := ?_) (a' := ?_) #[true, false, true, false, false, false, false, false, false, false, false] rfl rfl (by kernel_rfl) (fun _ _ _ h => h) (Or.inl ⟨by rfl, ?_⟩) ?_ ?_
        rotate_left
        · intro w'
          go_simp
          with_reducible rfl
        rotate_left
        · simp only [Act.put, List.setIfInBounds_toArray, List.set_cons_zero, List.set_cons_succ, i64_w, i32_w]
          rfl
        refine pure_ (i := 5) (N := some 109) (v := ?_) (a' := ?_) #[true, false, true, false, false, true, false, false, false, false, false] rfl rfl (by kernel_rfl) (fun _ _ _ h => h) (Or.inl ⟨by rfl, ?_⟩) ?_ ?_
        rotate_left
        · intro w'
          go_simp
          with_reducible rfl
        rotate_left
        · simp only [Act.put, List.setIfInBounds_toArray, List.set_cons_zero, List.set_cons_succ, i64_w, i32_w]
          rfl
        refine pure_ (i := 7) (N := some 111) (v := ?_) (a' := ?_) #[true, false, true, false, false, true, false, true, false, false, false] rfl rfl (by kernel_rfl) (fun _ _ _ h => h) (Or.inl ⟨by rfl, ?_⟩) ?_ ?_
        rotate_left
        · intro w'
          go_simp
          with_reducible rfl
        rotate_left
        · simp only [Act.put, List.setIfInBounds_toArray, List.set_cons_zero, List.set_cons_succ, i64_w, i32_w]
          rfl
        refine take_ (i := 1) (N := some 105) (v := ?_) (a' := ?_) #[true, true, true, false, false, true, false, true, false, false, false] rfl rfl (by kernel_rfl) (fun _ _ _ h => h) (Or.inl ⟨by rfl, ?_⟩) hHeld ?_ ?_
        rotate_left
        · rintro w' ⟨s0, s1, s2, s3⟩
          go_simp
          with_reducible rfl
        rotate_left
        · simp only [Act.put, List.setIfInBounds_toArray, List.set_cons_zero, List.set_cons_succ, i64_w, i32_w]
          rfl
        refine pure_ (i := 3) (N := some 107) (v := ?_) (a' := ?_) #[true, true, true, true, false, true, false, true, false, false, false] rfl rfl (by kernel_rfl) (fun _ _ _ h => h) (Or.inl ⟨by rfl, ?_⟩) ?_ ?_
        rotate_left
        · intro w'
          go_simp
          with_reducible rfl
        rotate_left
        · simp only [Act.put, List.setIfInBounds_toArray, List.set_cons_zero, List.set_cons_succ, i64_w, i32_w]
          rfl
        refine take_ (i := 4) (N := some 108) (v := ?_) (a' := ?_) #[true, true, true, true, true, true, false, true, false, false, false] rfl rfl (by kernel_rfl) (fun _ _ _ h => h) (Or.inl ⟨by rfl, ?_⟩) hHeld ?_ ?_
        rotate_left
        · rintro w' ⟨s0, s1, s2, s3⟩
          go_simp
          with_reducible rfl
        rotate_left
        · simp only [Act.put, List.setIfInBounds_toArray, List.set_cons_zero, List.set_cons_succ, i64_w, i32_w]
          rfl
        refine take_ (i := 6) (N := some 110) (v := ?_) (a' := ?_) #[true, true, true, true, true, true, true, true, false, false, false] rfl rfl (by kernel_rfl) (fun _ _ _ h => h) (Or.inl ⟨by rfl, ?_⟩) hHeld ?_ ?_
        rotate_left
        · rintro w' ⟨s0, s1, s2, s3⟩
          go_simp
          with_reducible rfl
        rotate_left
        · simp only [Act.put, List.setIfInBounds_toArray, List.set_cons_zero, List.set_cons_succ, i64_w, i32_w]
          rfl
        refine pure_ (i := 8) (N := some 112) (v := ?_) (a' := ?_) #[true, true, true, true, true, true, true, true, true, false, false] rfl rfl (by kernel_rfl) (fun _ _ _ h => h) (Or.inl ⟨by rfl, ?_⟩) ?_ ?_
        rotate_left
        · intro w'
          go_simp
          with_reducible rfl
        rotate_left
        · simp only [Act.put, List.setIfInBounds_toArray, List.set_cons_zero, List.set_cons_succ, i64_w, i32_w]
          rfl
        refine take_ (i := 9) (N := some 113) (v := ?_) (a' := ?_) #[true, true, true, true, true, true, true, true, true, true, false] rfl rfl (by kernel_rfl) (fun _ _ _ h => h) (Or.inl ⟨by rfl, ?_⟩) hHeld ?_ ?_
        rotate_left
        · rintro w' ⟨s0, s1, s2, s3⟩
          go_simp
          with_reducible rfl
        rotate_left
        · simp only [Act.put, List.setIfInBounds_toArray, List.set_cons_zero, List.set_cons_succ, i64_w, i32_w]
          rfl
        refine pure_ (i := 10) (N := some 114) (v := ?_) (a' := ?_) #[true, true, true, true, true, true, true, true, true, true, true] rfl rfl (by kernel_rfl) (fun _ _ _ h => h) (Or.inl ⟨by rfl, ?_⟩) ?_ ?_
        rotate_left
        · intro w'
          go_simp
          with_reducible rfl
        rotate_left
        · simp only [Act.put, List.setIfInBounds_toArray, List.set_cons_zero, List.set_cons_succ, i64_w, i32_w]
          rfl
        refine done_ (by kernel_rfl) ?_
        clear hHeld
        go_wp2_with fail
        go_ret
        exact SamePost.no rfl (fun h => by simp only [Msg.mk.injEq, true_and] at h; exact hxy (by have h2 := hxa.out; rw [h.1, hxb.out] at h2; exact (Option.some.inj h2).symm)) HW2.out.below
    · obtain rfl : na1 = j := by omega
      have E1 : Aside0 (ns = ns') := ⟨by have h := HT.out; rwa [List.take_of_length_le (by rw [Ca1.out.1]; exact Nat.le_refl _), List.take_of_length_le (by rw [Cb1.out.1]; exact Nat.le_refl _)] at h⟩
      go_wp2_with fail
      clear ka kb HT hlt hj
      have H3 := HW
      clear HW
      go_loopw [6] (fun z wr => ∃ j : Nat, j ≤ na2 ∧ z = .int .i64 j ∧ Aside0 (ms.take j = ms'.take j) ∧ Aside0 (Hw w wr (blk (w.heap.size + 1) (.cells #[.int .i64 k, .int .i64 s, .int .i64 d, .int .i64 i, .int .i64 r, .int .i64 ep, .int .i64 sl, .bool f, .slice B1 na1 cb1, .slice B2 na2 cb2, .slice B3 na3 cb3, .slice B4 na4 cb4] 27) * (blk w.heap.size (.cells #[.int .i64 k, .int .i64 s, .int .i64 d, .int .i64 i, .int .i64 r, .int .i64 ep, .int .i64 sl, .bool f, .slice A1 na1 ca1, .slice A2 na2 ca2, .slice A3 na3 ca3, .slice A4 na4 ca4] 27) * HP.emp)))) (fun z _ => na2 - (intOf z).toNat)
      case atStart => exact ⟨0, Nat.zero_le _, rfl, ⟨by simp⟩, H3⟩
      case round =>
        obtain ⟨j, hj, rfl, HT, HW⟩ := hrel
        have ka := HW.out.cellAt w.heap.size 9 (v := .slice A2 na2 ca2) rfl
        have kb := HW.out.cellAt (w.heap.size + 1) 9 (v := .slice B2 na2 cb2) rfl
        clear H3
        by_cases hlt : j < na2
        · obtain ⟨ad, x, rfl, hxa, hcla⟩ := elem_at mutC @KMut_cells Ca2.out HW.out.below j hlt
          have ka0 : wr.cell? (ad.add (j * 4 + 0)) = some (.bool x.1) := hcla 0 _ rfl
          have ka0' : wr.cell? (ad.add (j * 4)) = some (.bool x.1) := ka0
          clear ka0
          have ka1 : wr.cell? (ad.add (j * 4 + 1)) = some (.string x.2.1) := hcla 1 _ rfl
          rw [add_field _ _ _ (by decide)] at ka1
          have ka2 : wr.cell? (ad.add (j * 4 + 2)) = some (.string x.2.2.1) := hcla 2 _ rfl
          rw [add_field _ _ _ (by decide)] at ka2
          have ka3 : wr.cell? (ad.add (j * 4 + 3)) = some (.string x.2.2.2) := hcla 3 _ rfl
          rw [add_field _ _ _ (by decide)] at ka3
          clear hcla
          obtain ⟨bd, y, rfl, hxb, hclb⟩ := elem_at mutC @KMut_cells Cb2.out HW.out.below j hlt
          have kb0 : wr.cell? (bd.add (j * 4 + 0)) = some (.bool y.1) := hclb 0 _ rfl
          have kb0' : wr.cell? (bd.add (j * 4)) = some (.bool y.1) := kb0
          clear kb0
          have kb1 : wr.cell? (bd.add (j * 4 + 1)) = some (.string y.2.1) := hclb 1 _ rfl
          rw [add_field _ _ _ (by decide)] at kb1
          have kb2 : wr.cell? (bd.add (j * 4 + 2)) = some (.string y.2.2.1) := hclb 2 _ rfl
          rw [add_field _ _ _ (by decide)] at kb2
          have kb3 : wr.cell? (bd.add (j * 4 + 3)) = some (.string y.2.2.2) := hclb 3 _ rfl
          rw [add_field _ _ _ (by decide)] at kb3
          clear hclb
          have HW2 := Aside0.mk (HW.out.drewN 1)
          by_cases hxy : x = y
          · subst hxy
            have TK := Aside0.mk (show ms.take (j + 1) = ms'.take (j + 1) by rw [take_snoc_of hxa.out, take_snoc_of hxb.out, HT.out])
            have hrun := mut_same x
            go_upto_region 13 with fail
            refine start_ (n := 11) (S := fun w' => w'.cell? ⟨w.heap.size, 9, none⟩ = some (.slice (some ad) na2 ca2) ∧ w'.cell? ⟨w.heap.size + 1, 9, none⟩ = some (.slice (some bd) na2 cb2) ∧ w'.cell? (ad.add (j * 4)) = some (.bool x.1) ∧ w'.cell? ⟨(ad.add (j * 4)).block, (ad.add (j * 4)).off + 1, none⟩ = some (.string x.2.1) ∧ w'.cell? ⟨(ad.add (j * 4)).block, (ad.add (j * 4)).off + 2, none⟩ = some (.string x.2.2.1) ∧ w'.cell? ⟨(ad.add (j * 4)).block, (ad.add (j * 4)).off + 3, none⟩ = some (.string x.2.2.2) ∧ w'.cell? (bd.add (j * 4)) = some (.bool x.1) ∧ w'.cell? ⟨(bd.add (j * 4)).block, (bd.add (j * 4)).off + 1, none⟩ = some (.string x.2.1) ∧ w'.cell? ⟨(bd.add (j * 4)).block, (bd.add (j * 4)).off + 2, none⟩ = some (.string x.2.2.1) ∧ w'.cell? ⟨(bd.add (j * 4)).block, (bd.add (j * 4)).off + 3, none⟩ = some (.string x.2.2.2)) (ds := []) #[false, false, false, false, false, false, false, false, false, false, false] (by kernel_rfl) rfl rfl ⟨ka, kb, ka0', ka1, ka2, ka3, kb0', kb1, kb2, kb3⟩ (fun hHeld => ?_)
            refine pure_ (i := 0) (N := some 122) (v := ?_) (a' := ?_) #[true, false, false, false, false, false, false, false, false, false, false] rfl rfl (by kernel_rfl) (fun _ _ _ h => h) (Or.inl ⟨by rfl, ?_⟩) ?_ ?_
            rotate_left
            · intro w'
              go_simp
              with_reducible rfl
            rotate_left
            · simp only [Act.put, List.setIfInBounds_toArray, List.set_cons_zero, List.set_cons_succ, i64_w, i32_w]
              rfl
            refine pure_ (i := 2) (N := some 124) (v := ?_) (a' := ?_) #[true, false, true, false, false, false, false, false, false, false, false] rfl rfl (by kernel_rfl) (fun _ _ _ h => h) (Or.inl ⟨by rfl, ?_⟩) ?_ ?_
            rotate_left
            · intro w'
              go_simp
              with_reducible rfl
            rotate_left
            · simp only [Act.put, List.setIfInBounds_toArray, List.set_cons_zero, List.set_cons_succ, i64_w, i32_w]
              rfl
            refine pure_ (i := 5) (N := some 127) (v := ?_) (a' := ?_) #[true, false, true, false, false, true, false, false, false, false, false] rfl rfl (by kernel_rfl) (fun _ _ _ h => h) (Or.inl ⟨by rfl, ?_⟩) ?_ ?_
            rotate_left
            · intro w'
              go_simp
              with_reducible rfl
            rotate_left
            · simp only [Act.put, List.setIfInBounds_toArray, List.set_cons_zero, List.set_cons_succ, i64_w, i32_w]
              rfl
            refine pure_ (i := 7) (N := some 129) (v := ?_) (a' := ?_) #[true, false, true, false, false, true, false, true, false, false, false] rfl rfl (by kernel_rfl) (fun _ _ _ h => h) (Or.inl ⟨by rfl, ?_⟩) ?_ ?_
            rotate_left
            · intro w'
              go_simp
              with_reducible rfl
            rotate_left
            · simp only [Act.put, List.setIfInBounds_toArray, List.set_cons_zero, List.set_cons_succ, i64_w, i32_w]
              rfl
            refine take_ (i := 1) (N := some 123) (v := ?_) (a' := ?_) #[true, true, true, false, false, true, false, true, false, false, false] rfl rfl (by kernel_rfl) (fun _ _ _ h => h) (Or.inl ⟨by rfl, ?_⟩) hHeld ?_ ?_
            rotate_left
            · rintro w' ⟨s0, s1, s2, s3, s4, s5, s6, s7, s8, s9⟩
              go_simp
              with_reducible rfl
            rotate_left
            · simp only [Act.put, List.setIfInBounds_toArray, List.set_cons_zero, List.set_cons_succ, i64_w, i32_w]
              rfl
            refine pure_ (i := 3) (N := some 125) (v := ?_) (a' := ?_) #[true, true, true, true, false, true, false, true, false, false, false] rfl rfl (by kernel_rfl) (fun _ _ _ h => h) (Or.inl ⟨by rfl, ?_⟩) ?_ ?_
            rotate_left
            · intro w'
              go_simp
              with_reducible rfl
            rotate_left
            · simp only [Act.put, List.setIfInBounds_toArray, List.set_cons_zero, List.set_cons_succ, i64_w, i32_w]
              rfl
            refine take_ (i := 4) (N := some 126) (v := ?_) (a' := ?_) #[true, true, true, true, true, true, false, true, false, false, false] rfl rfl (by kernel_rfl) (fun _ _ _ h => h) (Or.inl ⟨by rfl, ?_⟩) hHeld ?_ ?_
            rotate_left
            · rintro w' ⟨s0, s1, s2, s3, s4, s5, s6, s7, s8, s9⟩
              go_simp
              with_reducible rfl
            rotate_left
            · simp only [Act.put, List.setIfInBounds_toArray, List.set_cons_zero, List.set_cons_succ, i64_w, i32_w]
              rfl
            refine take_ (i := 6) (N := some 128) (v := ?_) (a' := ?_) #[true, true, true, true, true, true, true, true, false, false, false] rfl rfl (by kernel_rfl) (fun _ _ _ h => h) (Or.inl ⟨by rfl, ?_⟩) hHeld ?_ ?_
            rotate_left
            · rintro w' ⟨s0, s1, s2, s3, s4, s5, s6, s7, s8, s9⟩
              go_simp
              with_reducible rfl
            rotate_left
            · simp only [Act.put, List.setIfInBounds_toArray, List.set_cons_zero, List.set_cons_succ, i64_w, i32_w]
              rfl
            refine pure_ (i := 8) (N := some 130) (v := ?_) (a' := ?_) #[true, true, true, true, true, true, true, true, true, false, false] rfl rfl (by kernel_rfl) (fun _ _ _ h => h) (Or.inl ⟨by rfl, ?_⟩) ?_ ?_
            rotate_left
            · intro w'
              go_simp
              with_reducible rfl
            rotate_left
            · simp only [Act.put, List.setIfInBounds_toArray, List.set_cons_zero, List.set_cons_succ, i64_w, i32_w]
              rfl
            refine take_ (i := 9) (N := some 131) (v := ?_) (a' := ?_) #[true, true, true, true, true, true, true, true, true, true, false] rfl rfl (by kernel_rfl) (fun _ _ _ h => h) (Or.inl ⟨by rfl, ?_⟩) hHeld ?_ ?_
            rotate_left
            · rintro w' ⟨s0, s1, s2, s3, s4, s5, s6, s7, s8, s9⟩
              go_simp
              with_reducible rfl
            rotate_left
            · simp only [Act.put, List.setIfInBounds_toArray, List.set_cons_zero, List.set_cons_succ, i64_w, i32_w]
              rfl
            refine pure_ (i := 10) (N := some 132) (v := ?_) (a' := ?_) #[true, true, true, true, true, true, true, true, true, true, true] rfl rfl (by kernel_rfl) (fun _ _ _ h => h) (Or.inl ⟨by rfl, ?_⟩) ?_ ?_
            rotate_left
            · intro w'
              go_simp
              with_reducible rfl
            rotate_left
            · simp only [Act.put, List.setIfInBounds_toArray, List.set_cons_zero, List.set_cons_succ, i64_w, i32_w]
              rfl
            refine done_ (by kernel_rfl) ?_
            clear hHeld
            go_wp2_with fail
            go_roundw
            case rel => exact ⟨j + 1, by omega, by go_num, TK, HW2⟩
            case measure => simp [intOf]; omega
          · have hrun := mut_diff x y hxy
            go_upto_region 13 with fail
            refine start_ (n := 11) (S := fun w' => w'.cell? ⟨w.heap.size, 9, none⟩ = some (.slice (some ad) na2 ca2) ∧ w'.cell? ⟨w.heap.size + 1, 9, none⟩ = some (.slice (some bd) na2 cb2) ∧ w'.cell? (ad.add (j * 4)) = some (.bool x.1) ∧ w'.cell? ⟨(ad.add (j * 4)).block, (ad.add (j * 4)).off + 1, none⟩ = some (.string x.2.1) ∧ w'.cell? ⟨(ad.add (j * 4)).block, (ad.add (j * 4)).off + 2, none⟩ = some (.string x.2.2.1) ∧ w'.cell? ⟨(ad.add (j * 4)).block, (ad.add (j * 4)).off + 3, none⟩ = some (.string x.2.2.2) ∧ w'.cell? (bd.add (j * 4)) = some (.bool y.1) ∧ w'.cell? ⟨(bd.add (j * 4)).block, (bd.add (j * 4)).off + 1, none⟩ = some (.string y.2.1) ∧ w'.cell? ⟨(bd.add (j * 4)).block, (bd.add (j * 4)).off + 2, none⟩ = some (.string y.2.2.1) ∧ w'.cell? ⟨(bd.add (j * 4)).block, (bd.add (j * 4)).off + 3, none⟩ = some (.string y.2.2.2)) (ds := []) #[false, false, false, false, false, false, false, false, false, false, false] (by kernel_rfl) rfl rfl ⟨ka, kb, ka0', ka1, ka2, ka3, kb0', kb1, kb2, kb3⟩ (fun hHeld => ?_)
            refine pure_ (i := 0) (N := some 122) (v := ?_) (a' := ?_) #[true, false, false, false, false, false, false, false, false, false, false] rfl rfl (by kernel_rfl) (fun _ _ _ h => h) (Or.inl ⟨by rfl, ?_⟩) ?_ ?_
            rotate_left
            · intro w'
              go_simp
              with_reducible rfl
            rotate_left
            · simp only [Act.put, List.setIfInBounds_toArray, List.set_cons_zero, List.set_cons_succ, i64_w, i32_w]
              rfl
            refine pure_ (i := 2) (N := some 124) (v := ?_) (a' := ?_) #[true, false, true, false, false, false, false, false, false, false, false] rfl rfl (by kernel_rfl) (fun _ _ _ h => h) (Or.inl ⟨by rfl, ?_⟩) ?_ ?_
            rotate_left
            · intro w'
              go_simp
              with_reducible rfl
            rotate_left
            · simp only [Act.put, List.setIfInBounds_toArray, List.set_cons_zero, List.set_cons_succ, i64_w, i32_w]
              rfl
            refine pure_ (i := 5) (N := some 127) (v := ?_) (a' := ?_) #[true, false, true, false, false, true, false, false, false, false, false] rfl rfl (by kernel_rfl) (fun _ _ _ h => h) (Or.inl ⟨by rfl, ?_⟩) ?_ ?_
            rotate_left
            · intro w'
              go_simp
              with_reducible rfl
            rotate_left
            · simp only [Act.put, List.setIfInBounds_toArray, List.set_cons_zero, List.set_cons_succ, i64_w, i32_w]
              rfl
            refine pure_ (i := 7) (N := some 129) (v := ?_) (a' := ?_) #[true, false, true, false, false, true, false, true, false, false, false] rfl rfl (by kernel_rfl) (fun _ _ _ h => h) (Or.inl ⟨by rfl, ?_⟩) ?_ ?_
            rotate_left
            · intro w'
              go_simp
              with_reducible rfl
            rotate_left
            · simp only [Act.put, List.setIfInBounds_toArray, List.set_cons_zero, List.set_cons_succ, i64_w, i32_w]
              rfl
            refine take_ (i := 1) (N := some 123) (v := ?_) (a' := ?_) #[true, true, true, false, false, true, false, true, false, false, false] rfl rfl (by kernel_rfl) (fun _ _ _ h => h) (Or.inl ⟨by rfl, ?_⟩) hHeld ?_ ?_
            rotate_left
            · rintro w' ⟨s0, s1, s2, s3, s4, s5, s6, s7, s8, s9⟩
              go_simp
              with_reducible rfl
            rotate_left
            · simp only [Act.put, List.setIfInBounds_toArray, List.set_cons_zero, List.set_cons_succ, i64_w, i32_w]
              rfl
            refine pure_ (i := 3) (N := some 125) (v := ?_) (a' := ?_) #[true, true, true, true, false, true, false, true, false, false, false] rfl rfl (by kernel_rfl) (fun _ _ _ h => h) (Or.inl ⟨by rfl, ?_⟩) ?_ ?_
            rotate_left
            · intro w'
              go_simp
              with_reducible rfl
            rotate_left
            · simp only [Act.put, List.setIfInBounds_toArray, List.set_cons_zero, List.set_cons_succ, i64_w, i32_w]
              rfl
            refine take_ (i := 4) (N := some 126) (v := ?_) (a' := ?_) #[true, true, true, true, true, true, false, true, false, false, false] rfl rfl (by kernel_rfl) (fun _ _ _ h => h) (Or.inl ⟨by rfl, ?_⟩) hHeld ?_ ?_
            rotate_left
            · rintro w' ⟨s0, s1, s2, s3, s4, s5, s6, s7, s8, s9⟩
              go_simp
              with_reducible rfl
            rotate_left
            · simp only [Act.put, List.setIfInBounds_toArray, List.set_cons_zero, List.set_cons_succ, i64_w, i32_w]
              rfl
            refine take_ (i := 6) (N := some 128) (v := ?_) (a' := ?_) #[true, true, true, true, true, true, true, true, false, false, false] rfl rfl (by kernel_rfl) (fun _ _ _ h => h) (Or.inl ⟨by rfl, ?_⟩) hHeld ?_ ?_
            rotate_left
            · rintro w' ⟨s0, s1, s2, s3, s4, s5, s6, s7, s8, s9⟩
              go_simp
              with_reducible rfl
            rotate_left
            · simp only [Act.put, List.setIfInBounds_toArray, List.set_cons_zero, List.set_cons_succ, i64_w, i32_w]
              rfl
            refine pure_ (i := 8) (N := some 130) (v := ?_) (a' := ?_) #[true, true, true, true, true, true, true, true, true, false, false] rfl rfl (by kernel_rfl) (fun _ _ _ h => h) (Or.inl ⟨by rfl, ?_⟩) ?_ ?_
            rotate_left
            · intro w'
              go_simp
              with_reducible rfl
            rotate_left
            · simp only [Act.put, List.setIfInBounds_toArray, List.set_cons_zero, List.set_cons_succ, i64_w, i32_w]
              rfl
            refine take_ (i := 9) (N := some 131) (v := ?_) (a' := ?_) #[true, true, true, true, true, true, true, true, true, true, false] rfl rfl (by kernel_rfl) (fun _ _ _ h => h) (Or.inl ⟨by rfl, ?_⟩) hHeld ?_ ?_
            rotate_left
            · rintro w' ⟨s0, s1, s2, s3, s4, s5, s6, s7, s8, s9⟩
              go_simp
              with_reducible rfl
            rotate_left
            · simp only [Act.put, List.setIfInBounds_toArray, List.set_cons_zero, List.set_cons_succ, i64_w, i32_w]
              rfl
            refine pure_ (i := 10) (N := some 132) (v := ?_) (a' := ?_) #[true, true, true, true, true, true, true, true, true, true, true] rfl rfl (by kernel_rfl) (fun _ _ _ h => h) (Or.inl ⟨by rfl, ?_⟩) ?_ ?_
            rotate_left
            · intro w'
              go_simp
              with_reducible rfl
            rotate_left
            · simp only [Act.put, List.setIfInBounds_toArray, List.set_cons_zero, List.set_cons_succ, i64_w, i32_w]
              rfl
            refine done_ (by kernel_rfl) ?_
            clear hHeld
            go_wp2_with fail
            go_ret
            exact SamePost.no rfl (fun h => by simp only [Msg.mk.injEq, true_and] at h; exact hxy (by have h2 := hxa.out; rw [h.2.1, hxb.out] at h2; exact (Option.some.inj h2).symm)) HW2.out.below
        · obtain rfl : na2 = j := by omega
          have E2 : Aside0 (ms = ms') := ⟨by have h := HT.out; rwa [List.take_of_length_le (by rw [Ca2.out.1]; exact Nat.le_refl _), List.take_of_length_le (by rw [Cb2.out.1]; exact Nat.le_refl _)] at h⟩
          go_wp2_with fail
          clear ka kb HT hlt hj
          have H4 := HW
          clear HW
          go_loopw [7] (fun z wr => ∃ j : Nat, j ≤ na3 ∧ z = .int .i64 j ∧ Aside0 (ps.take j = ps'.take j) ∧ Aside0 (Hw w wr (blk (w.heap.size + 1) (.cells #[.int .i64 k, .int .i64 s, .int .i64 d, .int .i64 i, .int .i64 r, .int .i64 ep, .int .i64 sl, .bool f, .slice B1 na1 cb1, .slice B2 na2 cb2, .slice B3 na3 cb3, .slice B4 na4 cb4] 27) * (blk w.heap.size (.cells #[.int .i64 k, .int .i64 s, .int .i64 d, .int .i64 i, .int .i64 r, .int .i64 ep, .int .i64 sl, .bool f, .slice A1 na1 ca1, .slice A2 na2 ca2, .slice A3 na3 ca3, .slice A4 na4 ca4] 27) * HP.emp)))) (fun z _ => na3 - (intOf z).toNat)
          case atStart => exact ⟨0, Nat.zero_le _, rfl, ⟨by simp⟩, H4⟩
          case round =>
            obtain ⟨j, hj, rfl, HT, HW⟩ := hrel
            have ka := HW.out.cellAt w.heap.size 10 (v := .slice A3 na3 ca3) rfl
            have kb := HW.out.cellAt (w.heap.size + 1) 10 (v := .slice B3 na3 cb3) rfl
            clear H4
            by_cases hlt : j < na3
            · obtain ⟨ad, x, rfl, hxa, hcla⟩ := elem_at mutC @KMut_cells Ca3.out HW.out.below j hlt
              have ka0 : wr.cell? (ad.add (j * 4 + 0)) = some (.bool x.1) := hcla 0 _ rfl
              have ka0' : wr.cell? (ad.add (j * 4)) = some (.bool x.1) := ka0
              clear ka0
              have ka1 : wr.cell? (ad.add (j * 4 + 1)) = some (.string x.2.1) := hcla 1 _ rfl
              rw [add_field _ _ _ (by decide)] at ka1
              have ka2 : wr.cell? (ad.add (j * 4 + 2)) = some (.string x.2.2.1) := hcla 2 _ rfl
              rw [add_field _ _ _ (by decide)] at ka2
              have ka3 : wr.cell? (ad.add (j * 4 + 3)) = some (.string x.2.2.2) := hcla 3 _ rfl
              rw [add_field _ _ _ (by decide)] at ka3
              clear hcla
              obtain ⟨bd, y, rfl, hxb, hclb⟩ := elem_at mutC @KMut_cells Cb3.out HW.out.below j hlt
              have kb0 : wr.cell? (bd.add (j * 4 + 0)) = some (.bool y.1) := hclb 0 _ rfl
              have kb0' : wr.cell? (bd.add (j * 4)) = some (.bool y.1) := kb0
              clear kb0
              have kb1 : wr.cell? (bd.add (j * 4 + 1)) = some (.string y.2.1) := hclb 1 _ rfl
              rw [add_field _ _ _ (by decide)] at kb1
              have kb2 : wr.cell? (bd.add (j * 4 + 2)) = some (.string y.2.2.1) := hclb 2 _ rfl
              rw [add_field _ _ _ (by decide)] at kb2
              have kb3 : wr.cell? (bd.add (j * 4 + 3)) = some (.string y.2.2.2) := hclb 3 _ rfl
              rw [add_field _ _ _ (by decide)] at kb3
              clear hclb
              have HW2 := Aside0.mk (HW.out.drewN 1)
              by_cases hxy : x = y
              · subst hxy
                have TK := Aside0.mk (show ps.take (j + 1) = ps'.take (j + 1) by rw [take_snoc_of hxa.out, take_snoc_of hxb.out, HT.out])
                have hrun := cond_same x
                go_upto_region 18 with fail
                refine start_ (n := 11) (S := fun w' => w'.cell? ⟨w.heap.size, 10, none⟩ = some (.slice (some ad) na3 ca3) ∧ w'.cell? ⟨w.heap.size + 1, 10, none⟩ = some (.slice (some bd) na3 cb3) ∧ w'.cell? (ad.add (j * 4)) = some (.bool x.1) ∧ w'.cell? ⟨(ad.add (j * 4)).block, (ad.add (j * 4)).off + 1, none⟩ = some (.string x.2.1) ∧ w'.cell? ⟨(ad.add (j * 4)).block, (ad.add (j * 4)).off + 2, none⟩ = some (.string x.2.2.1) ∧ w'.cell? ⟨(ad.add (j * 4)).block, (ad.add (j * 4)).off + 3, none⟩ = some (.string x.2.2.2) ∧ w'.cell? (bd.add (j * 4)) = some (.bool x.1) ∧ w'.cell? ⟨(bd.add (j * 4)).block, (bd.add (j * 4)).off + 1, none⟩ = some (.string x.2.1) ∧ w'.cell? ⟨(bd.add (j * 4)).block, (bd.add (j * 4)).off + 2, none⟩ = some (.string x.2.2.1) ∧ w'.cell? ⟨(bd.add (j * 4)).block, (bd.add (j * 4)).off + 3, none⟩ = some (.string x.2.2.2)) (ds := []) #[false, false, false, false, false, false, false, false, false, false, false] (by kernel_rfl) rfl rfl ⟨ka, kb, ka0', ka1, ka2, ka3, kb0', kb1, kb2, kb3⟩ (fun hHeld => ?_)
                refine pure_ (i := 0) (N := some 140) (v := ?_) (a' := ?_) #[true, false, false, false, false, false, false, false, false, false, false] rfl rfl (by kernel_rfl) (fun _ _ _ h => h) (Or.inl ⟨by rfl, ?_⟩) ?_ ?_
                rotate_left
                · intro w'
                  go_simp
                  with_reducible rfl
                rotate_left
                · simp only [Act.put, List.setIfInBounds_toArray, List.set_cons_zero, List.set_cons_succ, i64_w, i32_w]
                  rfl
                refine pure_ (i := 2) (N := some 142) (v := ?_) (a' := ?_) #[true, false, true, false, false, false, false, false, false, false, false] rfl rfl (by kernel_rfl) (fun _ _ _ h => h) (Or.inl ⟨by rfl, ?_⟩) ?_ ?_
                rotate_left
                · intro w'
                  go_simp
                  with_reducible rfl
                rotate_left
                · simp only [Act.put, List.setIfInBounds_toArray, List.set_cons_zero, List.set_cons_succ, i64_w, i32_w]
                  rfl
                refine pure_ (i := 5) (N := some 145) (v := ?_) (a' := ?_) #[true, false, true, false, false, true, false, false, false, false, false] rfl rfl (by kernel_rfl) (fun _ _ _ h => h) (Or.inl ⟨by rfl, ?_⟩) ?_ ?_
                rotate_left
                · intro w'
                  go_simp
                  with_reducible rfl
                rotate_left
                · simp only [Act.put, List.setIfInBounds_toArray, List.set_cons_zero, List.set_cons_succ, i64_w, i32_w]
                  rfl
                refine pure_ (i := 7) (N := some 147) (v := ?_) (a' := ?_) #[true, false, true, false, false, true, false, true, false, false, false] rfl rfl (by kernel_rfl) (fun _ _ _ h => h) (Or.inl ⟨by rfl, ?_⟩) ?_ ?_
                rotate_left
                · intro w'
                  go_simp
                  with_reducible rfl
                rotate_left
                · simp only [Act.put, List.setIfInBounds_toArray, List.set_cons_zero, List.set_cons_succ, i64_w, i32_w]
                  rfl
                refine take_ (i := 1) (N := some 141) (v := ?_) (a' := ?_) #[true, true, true, false, false, true, false, true, false, false, false] rfl rfl (by kernel_rfl) (fun _ _ _ h => h) (Or.inl ⟨by rfl, ?_⟩) hHeld ?_ ?_
                rotate_left
                · rintro w' ⟨s0, s1, s2, s3, s4, s5, s6, s7, s8, s9⟩
                  go_simp
                  with_reducible rfl
                rotate_left
                · simp only [Act.put, List.setIfInBounds_toArray, List.set_cons_zero, List.set_cons_succ, i64_w, i32_w]
                  rfl
                refine pure_ (i := 3) (N := some 143) (v := ?_) (a' := ?_) #[true, true, true, true, false, true, false, true, false, false, false] rfl rfl (by kernel_rfl) (fun _ _ _ h => h) (Or.inl ⟨by rfl, ?_⟩) ?_ ?_
                rotate_left
                · intro w'
                  go_simp
                  with_reducible rfl
                rotate_left
                · simp only [Act.put, List.setIfInBounds_toArray, List.set_cons_zero, List.set_cons_succ, i64_w, i32_w]
                  rfl
                refine take_ (i := 4) (N := some 144) (v := ?_) (a' := ?_) #[true, true, true, true, true, true, false, true, false, false, false] rfl rfl (by kernel_rfl) (fun _ _ _ h => h) (Or.inl ⟨by rfl, ?_⟩) hHeld ?_ ?_
                rotate_left
                · rintro w' ⟨s0, s1, s2, s3, s4, s5, s6, s7, s8, s9⟩
                  go_simp
                  with_reducible rfl
                rotate_left
                · simp only [Act.put, List.setIfInBounds_toArray, List.set_cons_zero, List.set_cons_succ, i64_w, i32_w]
                  rfl
                refine take_ (i := 6) (N := some 146) (v := ?_) (a' := ?_) #[true, true, true, true, true, true, true, true, false, false, false] rfl rfl (by kernel_rfl) (fun _ _ _ h => h) (Or.inl ⟨by rfl, ?_⟩) hHeld ?_ ?_
                rotate_left
                · rintro w' ⟨s0, s1, s2, s3, s4, s5, s6, s7, s8, s9⟩
                  go_simp
                  with_reducible rfl
                rotate_left
                · simp only [Act.put, List.setIfInBounds_toArray, List.set_cons_zero, List.set_cons_succ, i64_w, i32_w]
                  rfl
                refine pure_ (i := 8) (N := some 148) (v := ?_) (a' := ?_) #[true, true, true, true, true, true, true, true, true, false, false] rfl rfl (by kernel_rfl) (fun _ _ _ h => h) (Or.inl ⟨by rfl, ?_⟩) ?_ ?_
                rotate_left
                · intro w'
                  go_simp
                  with_reducible rfl
                rotate_left
                · simp only [Act.put, List.setIfInBounds_toArray, List.set_cons_zero, List.set_cons_succ, i64_w, i32_w]
                  rfl
                refine take_ (i := 9) (N := some 149) (v := ?_) (a' := ?_) #[true, true, true, true, true, true, true, true, true, true, false] rfl rfl (by kernel_rfl) (fun _ _ _ h => h) (Or.inl ⟨by rfl, ?_⟩) hHeld ?_ ?_
                rotate_left
                · rintro w' ⟨s0, s1, s2, s3, s4, s5, s6, s7, s8, s9⟩
                  go_simp
                  with_reducible rfl
                rotate_left
                · simp only [Act.put, List.setIfInBounds_toArray, List.set_cons_zero, List.set_cons_succ, i64_w, i32_w]
                  rfl
                refine pure_ (i := 10) (N := some 150) (v := ?_) (a' := ?_) #[true, true, true, true, true, true, true, true, true, true, true] rfl rfl (by kernel_rfl) (fun _ _ _ h => h) (Or.inl ⟨by rfl, ?_⟩) ?_ ?_
                rotate_left
                · intro w'
                  go_simp
                  with_reducible rfl
                rotate_left
                · simp only [Act.put, List.setIfInBounds_toArray, List.set_cons_zero, List.set_cons_succ, i64_w, i32_w]
                  rfl
                refine done_ (by kernel_rfl) ?_
                clear hHeld
                go_wp2_with fail
                go_roundw
                case rel => exact ⟨j + 1, by omega, by go_num, TK, HW2⟩
                case measure => simp [intOf]; omega
              · have hrun := cond_diff x y hxy
                go_upto_region 18 with fail
                refine start_ (n := 11) (S := fun w' => w'.cell? ⟨w.heap.size, 10, none⟩ = some (.slice (some ad) na3 ca3) ∧ w'.cell? ⟨w.heap.size + 1, 10, none⟩ = some (.slice (some bd) na3 cb3) ∧ w'.cell? (ad.add (j * 4)) = some (.bool x.1) ∧ w'.cell? ⟨(ad.add (j * 4)).block, (ad.add (j * 4)).off + 1, none⟩ = some (.string x.2.1) ∧ w'.cell? ⟨(ad.add (j * 4)).block, (ad.add (j * 4)).off + 2, none⟩ = some (.string x.2.2.1) ∧ w'.cell? ⟨(ad.add (j * 4)).block, (ad.add (j * 4)).off + 3, none⟩ = some (.string x.2.2.2) ∧ w'.cell? (bd.add (j * 4)) = some (.bool y.1) ∧ w'.cell? ⟨(bd.add (j * 4)).block, (bd.add (j * 4)).off + 1, none⟩ = some (.string y.2.1) ∧ w'.cell? ⟨(bd.add (j * 4)).block, (bd.add (j * 4)).off + 2, none⟩ = some (.string y.2.2.1) ∧ w'.cell? ⟨(bd.add (j * 4)).block, (bd.add (j * 4)).off + 3, none⟩ = some (.string y.2.2.2)) (ds := []) #[false, false, false, false, false, false, false, false, false, false, false] (by kernel_rfl) rfl rfl ⟨ka, kb, ka0', ka1, ka2, ka3, kb0', kb1, kb2, kb3⟩ (fun hHeld => ?_)
                refine pure_ (i := 0) (N := some 140) (v := ?_) (a' := ?_) #[true, false, false, false, false, false, false, false, false, false, false] rfl rfl (by kernel_rfl) (fun _ _ _ h => h) (Or.inl ⟨by rfl, ?_⟩) ?_ ?_
                rotate_left
                · intro w'
                  go_simp
                  with_reducible rfl
                rotate_left
                · simp only [Act.put, List.setIfInBounds_toArray, List.set_cons_zero, List.set_cons_succ, i64_w, i32_w]
                  rfl
                refine pure_ (i := 2) (N := some 142) (v := ?_) (a' := ?_) #[true, false, true, false, false, false, false, false, false, false, false] rfl rfl (by kernel_rfl) (fun _ _ _ h => h) (Or.inl ⟨by rfl, ?_⟩) ?_ ?_
                rotate_left
                · intro w'
                  go_simp
                  with_reducible rfl
                rotate_left
                · simp only [Act.put, List.setIfInBounds_toArray, List.set_cons_zero, List.set_cons_succ, i64_w, i32_w]
                  rfl
                refine pure_ (i := 5) (N := some 145) (v := ?_) (a' := ?_) #[true, false, true, false, false, true, false, false, false, false, false] rfl rfl (by kernel_rfl) (fun _ _ _ h => h) (Or.inl ⟨by rfl, ?_⟩) ?_ ?_
                rotate_left
                · intro w'
                  go_simp
                  with_reducible rfl
                rotate_left
                · simp only [Act.put, List.setIfInBounds_toArray, List.set_cons_zero, List.set_cons_succ, i64_w, i32_w]
                  rfl
                refine pure_ (i := 7) (N := some 147) (v := ?_) (a' := ?_) #[true, false, true, false, false, true, false, true, false, false, false] rfl rfl (by kernel_rfl) (fun _ _ _ h => h) (Or.inl ⟨by rfl, ?_⟩) ?_ ?_
                rotate_left
                · intro w'
                  go_simp
                  with_reducible rfl
                rotate_left
                · simp only [Act.put, List.setIfInBounds_toArray, List.set_cons_zero, List.set_cons_succ, i64_w, i32_w]
                  rfl
                refine take_ (i := 1) (N := some 141) (v := ?_) (a' := ?_) #[true, true, true, false, false, true, false, true, false, false, false] rfl rfl (by kernel_rfl) (fun _ _ _ h => h) (Or.inl ⟨by rfl, ?_⟩) hHeld ?_ ?_
                rotate_left
                · rintro w' ⟨s0, s1, s2, s3, s4, s5, s6, s7, s8, s9⟩
                  go_simp
                  with_reducible rfl
                rotate_left
                · simp only [Act.put, List.setIfInBounds_toArray, List.set_cons_zero, List.set_cons_succ, i64_w, i32_w]
                  rfl
                refine pure_ (i := 3) (N := some 143) (v := ?_) (a' := ?_) #[true, true, true, true, false, true, false, true, false, false, false] rfl rfl (by kernel_rfl) (fun _ _ _ h => h) (Or.inl ⟨by rfl, ?_⟩) ?_ ?_
                rotate_left
                · intro w'
                  go_simp
                  with_reducible rfl
                rotate_left
                · simp only [Act.put, List.setIfInBounds_toArray, List.set_cons_zero, List.set_cons_succ, i64_w, i32_w]
                  rfl
                refine take_ (i := 4) (N := some 144) (v := ?_) (a' := ?_) #[true, true, true, true, true, true, false, true, false, false, false] rfl rfl (by kernel_rfl) (fun _ _ _ h => h) (Or.inl ⟨by rfl, ?_⟩) hHeld ?_ ?_
                rotate_left
                · rintro w' ⟨s0, s1, s2, s3, s4, s5, s6, s7, s8, s9⟩
                  go_simp
                  with_reducible rfl
                rotate_left
                · simp only [Act.put, List.setIfInBounds_toArray, List.set_cons_zero, List.set_cons_succ, i64_w, i32_w]
                  rfl
                refine take_ (i := 6) (N := some 146) (v := ?_) (a' := ?_) #[true, true, true, true, true, true, true, true, false, false, false] rfl rfl (by kernel_rfl) (fun _ _ _ h => h) (Or.inl ⟨by rfl, ?_⟩) hHeld ?_ ?_
                rotate_left
                · rintro w' ⟨s0, s1, s2, s3, s4, s5, s6, s7, s8, s9⟩
                  go_simp
                  with_reducible rfl
                rotate_left
                · simp only [Act.put, List.setIfInBounds_toArray, List.set_cons_zero, List.set_cons_succ, i64_w, i32_w]
                  rfl
                refine pure_ (i := 8) (N := some 148) (v := ?_) (a' := ?_) #[true, true, true, true, true, true, true, true, true, false, false] rfl rfl (by kernel_rfl) (fun _ _ _ h => h) (Or.inl ⟨by rfl, ?_⟩) ?_ ?_
                rotate_left
                · intro w'
                  go_simp
                  with_reducible rfl
                rotate_left
                · simp only [Act.put, List.setIfInBounds_toArray, List.set_cons_zero, List.set_cons_succ, i64_w, i32_w]
                  rfl
                refine take_ (i := 9) (N := some 149) (v := ?_) (a' := ?_) #[true, true, true, true, true, true, true, true, true, true, false] rfl rfl (by kernel_rfl) (fun _ _ _ h => h) (Or.inl ⟨by rfl, ?_⟩) hHeld ?_ ?_
                rotate_left
                · rintro w' ⟨s0, s1, s2, s3, s4, s5, s6, s7, s8, s9⟩
                  go_simp
                  with_reducible rfl
                rotate_left
                · simp only [Act.put, List.setIfInBounds_toArray, List.set_cons_zero, List.set_cons_succ, i64_w, i32_w]
                  rfl
                refine pure_ (i := 10) (N := some 150) (v := ?_) (a' := ?_) #[true, true, true, true, true, true, true, true, true, true, true] rfl rfl (by kernel_rfl) (fun _ _ _ h => h) (Or.inl ⟨by rfl, ?_⟩) ?_ ?_
                rotate_left
                · intro w'
                  go_simp
                  with_reducible rfl
                rotate_left
                · simp only [Act.put, List.setIfInBounds_toArray, List.set_cons_zero, List.set_cons_succ, i64_w, i32_w]
                  rfl
                refine done_ (by kernel_rfl) ?_
                clear hHeld
                go_wp2_with fail
                go_ret
                exact SamePost.no rfl (fun h => by simp only [Msg.mk.injEq, true_and] at h; exact hxy (by have h2 := hxa.out; rw [h.2.2.1, hxb.out] at h2; exact (Option.some.inj h2).symm)) HW2.out.below
            · obtain rfl : na3 = j := by omega
              have E3 : Aside0 (ps = ps') := ⟨by have h := HT.out; rwa [List.take_of_length_le (by rw [Ca3.out.1]; exact Nat.le_refl _), List.take_of_length_le (by rw [Cb3.out.1]; exact Nat.le_refl _)] at h⟩
              go_wp2_with fail
              clear ka kb HT hlt hj
              have H5 := HW
              clear HW
              go_loopw [8] (fun z wr => ∃ j : Nat, j ≤ na4 ∧ z = .int .i64 j ∧ Aside0 (rs.take j = rs'.take j) ∧ Aside0 (Hw w wr (blk (w.heap.size + 1) (.cells #[.int .i64 k, .int .i64 s, .int .i64 d, .int .i64 i, .int .i64 r, .int .i64 ep, .int .i64 sl, .bool f, .slice B1 na1 cb1, .slice B2 na2 cb2, .slice B3 na3 cb3, .slice B4 na4 cb4] 27) * (blk w.heap.size (.cells #[.int .i64 k, .int .i64 s, .int .i64 d, .int .i64 i, .int .i64 r, .int .i64 ep, .int .i64 sl, .bool f, .slice A1 na1 ca1, .slice A2 na2 ca2, .slice A3 na3 ca3, .slice A4 na4 ca4] 27) * HP.emp)))) (fun z _ => na4 - (intOf z).toNat)
              case atStart => exact ⟨0, Nat.zero_le _, rfl, ⟨by simp⟩, H5⟩
              case round =>
                obtain ⟨j, hj, rfl, HT, HW⟩ := hrel
                have ka := HW.out.cellAt w.heap.size 11 (v := .slice A4 na4 ca4) rfl
                have kb := HW.out.cellAt (w.heap.size + 1) 11 (v := .slice B4 na4 cb4) rfl
                clear H5
                by_cases hlt : j < na4
                · obtain ⟨ad, x, rfl, hxa, hcla⟩ := elem_at rowC @KRow_cells Ca4.out HW.out.below j hlt
                  have ka0 : wr.cell? (ad.add (j * 5 + 0)) = some (.string x.1.1) := hcla 0 _ rfl
                  have ka0' : wr.cell? (ad.add (j * 5)) = some (.string x.1.1) := ka0
                  clear ka0
                  have ka1 : wr.cell? (ad.add (j * 5 + 1)) = some (.string x.1.2.1) := hcla 1 _ rfl
                  rw [add_field _ _ _ (by decide)] at ka1
                  have ka2 : wr.cell? (ad.add (j * 5 + 2)) = some (.string x.1.2.2) := hcla 2 _ rfl
                  rw [add_field _ _ _ (by decide)] at ka2
                  have ka3 : wr.cell? (ad.add (j * 5 + 3)) = some (.int .i64 x.2.1) := hcla 3 _ rfl
                  rw [add_field _ _ _ (by decide)] at ka3
                  have ka4 : wr.cell? (ad.add (j * 5 + 4)) = some (.int .i64 x.2.2) := hcla 4 _ rfl
                  rw [add_field _ _ _ (by decide)] at ka4
                  clear hcla
                  obtain ⟨bd, y, rfl, hxb, hclb⟩ := elem_at rowC @KRow_cells Cb4.out HW.out.below j hlt
                  have kb0 : wr.cell? (bd.add (j * 5 + 0)) = some (.string y.1.1) := hclb 0 _ rfl
                  have kb0' : wr.cell? (bd.add (j * 5)) = some (.string y.1.1) := kb0
                  clear kb0
                  have kb1 : wr.cell? (bd.add (j * 5 + 1)) = some (.string y.1.2.1) := hclb 1 _ rfl
                  rw [add_field _ _ _ (by decide)] at kb1
                  have kb2 : wr.cell? (bd.add (j * 5 + 2)) = some (.string y.1.2.2) := hclb 2 _ rfl
                  rw [add_field _ _ _ (by decide)] at kb2
                  have kb3 : wr.cell? (bd.add (j * 5 + 3)) = some (.int .i64 y.2.1) := hclb 3 _ rfl
                  rw [add_field _ _ _ (by decide)] at kb3
                  have kb4 : wr.cell? (bd.add (j * 5 + 4)) = some (.int .i64 y.2.2) := hclb 4 _ rfl
                  rw [add_field _ _ _ (by decide)] at kb4
                  clear hclb
                  have HW2 := Aside0.mk (HW.out.drewN 1)
                  by_cases hxy : x = y
                  · subst hxy
                    have TK := Aside0.mk (show rs.take (j + 1) = rs'.take (j + 1) by rw [take_snoc_of hxa.out, take_snoc_of hxb.out, HT.out])
                    have hrun := row_same x
                    go_upto_region 23 with fail
                    refine start_ (n := 11) (S := fun w' => w'.cell? ⟨w.heap.size, 11, none⟩ = some (.slice (some ad) na4 ca4) ∧ w'.cell? ⟨w.heap.size + 1, 11, none⟩ = some (.slice (some bd) na4 cb4) ∧ w'.cell? (ad.add (j * 5)) = some (.string x.1.1) ∧ w'.cell? ⟨(ad.add (j * 5)).block, (ad.add (j * 5)).off + 1, none⟩ = some (.string x.1.2.1) ∧ w'.cell? ⟨(ad.add (j * 5)).block, (ad.add (j * 5)).off + 2, none⟩ = some (.string x.1.2.2) ∧ w'.cell? ⟨(ad.add (j * 5)).block, (ad.add (j * 5)).off + 3, none⟩ = some (.int .i64 x.2.1) ∧ w'.cell? ⟨(ad.add (j * 5)).block, (ad.add (j * 5)).off + 4, none⟩ = some (.int .i64 x.2.2) ∧ w'.cell? (bd.add (j * 5)) = some (.string x.1.1) ∧ w'.cell? ⟨(bd.add (j * 5)).block, (bd.add (j * 5)).off + 1, none⟩ = some (.string x.1.2.1) ∧ w'.cell? ⟨(bd.add (j * 5)).block, (bd.add (j * 5)).off + 2, none⟩ = some (.string x.1.2.2) ∧ w'.cell? ⟨(bd.add (j * 5)).block, (bd.add (j * 5)).off + 3, none⟩ = some (.int .i64 x.2.1) ∧ w'.cell? ⟨(bd.add (j * 5)).block, (bd.add (j * 5)).off + 4, none⟩ = some (.int .i64 x.2.2)) (ds := []) #[false, false, false, false, false, false, false, false, false, false, false] (by kernel_rfl) rfl rfl ⟨ka, kb, ka0', ka1, ka2, ka3, ka4, kb0', kb1, kb2, kb3, kb4⟩ (fun hHeld => ?_)
                    refine pure_ (i := 0) (N := some 158) (v := ?_) (a' := ?_) #[true, false, false, false, false, false, false, false, false, false, false] rfl rfl (by kernel_rfl) (fun _ _ _ h => h) (Or.inl ⟨by rfl, ?_⟩) ?_ ?_
                    rotate_left
                    · intro w'
                      go_simp
                      with_reducible rfl
                    rotate_left
                    · simp only [Act.put, List.setIfInBounds_toArray, List.set_cons_zero, List.set_cons_succ, i64_w, i32_w]
                      rfl
                    refine pure_ (i := 2) (N := some 160) (v := ?_) (a' := ?_) #[true, false, true, false, false, false, false, false, false, false, false] rfl rfl (by kernel_rfl) (fun _ _ _ h => h) (Or.inl ⟨by rfl, ?_⟩) ?_ ?_
                    rotate_left
                    · intro w'
                      go_simp
                      with_reducible rfl
                    rotate_left
                    · simp only [Act.put, List.setIfInBounds_toArray, List.set_cons_zero, List.set_cons_succ, i64_w, i32_w]
                      rfl
                    refine pure_ (i := 5) (N := some 163) (v := ?_) (a' := ?_) #[true, false, true, false, false, true, false, false, false, false, false] rfl rfl (by kernel_rfl) (fun _ _ _ h => h) (Or.inl ⟨by rfl, ?_⟩) ?_ ?_
                    rotate_left
                    · intro w'
                      go_simp
                      with_reducible rfl
                    rotate_left
                    · simp only [Act.put, List.setIfInBounds_toArray, List.set_cons_zero, List.set_cons_succ, i64_w, i32_w]
                      rfl
                    refine pure_ (i := 7) (N := some 165) (v := ?_) (a' := ?_) #[true, false, true, false, false, true, false, true, false, false, false] rfl rfl (by kernel_rfl) (fun _ _ _ h => h) (Or.inl ⟨by rfl, ?_⟩) ?_ ?_
                    rotate_left
                    · intro w'
                      go_simp
                      with_reducible rfl
                    rotate_left
                    · simp only [Act.put, List.setIfInBounds_toArray, List.set_cons_zero, List.set_cons_succ, i64_w, i32_w]
                      rfl
                    refine take_ (i := 1) (N := some 159) (v := ?_) (a' := ?_) #[true, true, true, false, false, true, false, true, false, false, false] rfl rfl (by kernel_rfl) (fun _ _ _ h => h) (Or.inl ⟨by rfl, ?_⟩) hHeld ?_ ?_
                    rotate_left
                    · rintro w' ⟨s0, s1, s2, s3, s4, s5, s6, s7, s8, s9, s10, s11⟩
                      go_simp
                      with_reducible rfl
                    rotate_left
                    · simp only [Act.put, List.setIfInBounds_toArray, List.set_cons_zero, List.set_cons_succ, i64_w, i32_w]
                      rfl
                    refine pure_ (i := 3) (N := some 161) (v := ?_) (a' := ?_) #[true, true, true, true, false, true, false, true, false, false, false] rfl rfl (by kernel_rfl) (fun _ _ _ h => h) (Or.inl ⟨by rfl, ?_⟩) ?_ ?_
                    rotate_left
                    · intro w'
                      go_simp
                      with_reducible rfl
                    rotate_left
                    · simp only [Act.put, List.setIfInBounds_toArray, List.set_cons_zero, List.set_cons_succ, i64_w, i32_w]
                      rfl
                    refine take_ (i := 4) (N := some 162) (v := ?_) (a' := ?_) #[true, true, true, true, true, true, false, true, false, false, false] rfl rfl (by kernel_rfl) (fun _ _ _ h => h) (Or.inl ⟨by rfl, ?_⟩) hHeld ?_ ?_
                    rotate_left
                    · rintro w' ⟨s0, s1, s2, s3, s4, s5, s6, s7, s8, s9, s10, s11⟩
                      go_simp
                      with_reducible rfl
                    rotate_left
                    · simp only [Act.put, List.setIfInBounds_toArray, List.set_cons_zero, List.set_cons_succ, i64_w, i32_w]
                      rfl
                    refine take_ (i := 6) (N := some 164) (v := ?_) (a' := ?_) #[true, true, true, true, true, true, true, true, false, false, false] rfl rfl (by kernel_rfl) (fun _ _ _ h => h) (Or.inl ⟨by rfl, ?_⟩) hHeld ?_ ?_
                    rotate_left
                    · rintro w' ⟨s0, s1, s2, s3, s4, s5, s6, s7, s8, s9, s10, s11⟩
                      go_simp
                      with_reducible rfl
                    rotate_left
                    · simp only [Act.put, List.setIfInBounds_toArray, List.set_cons_zero, List.set_cons_succ, i64_w, i32_w]
                      rfl
                    refine pure_ (i := 8) (N := some 166) (v := ?_) (a' := ?_) #[true, true, true, true, true, true, true, true, true, false, false] rfl rfl (by kernel_rfl) (fun _ _ _ h => h) (Or.inl ⟨by rfl, ?_⟩) ?_ ?_
                    rotate_left
                    · intro w'
                      go_simp
                      with_reducible rfl
                    rotate_left
                    · simp only [Act.put, List.setIfInBounds_toArray, List.set_cons_zero, List.set_cons_succ, i64_w, i32_w]
                      rfl
                    refine take_ (i := 9) (N := some 167) (v := ?_) (a' := ?_) #[true, true, true, true, true, true, true, true, true, true, false] rfl rfl (by kernel_rfl) (fun _ _ _ h => h) (Or.inl ⟨by rfl, ?_⟩) hHeld ?_ ?_
                    rotate_left
                    · rintro w' ⟨s0, s1, s2, s3, s4, s5, s6, s7, s8, s9, s10, s11⟩
                      go_simp
                      with_reducible rfl
                    rotate_left
                    · simp only [Act.put, List.setIfInBounds_toArray, List.set_cons_zero, List.set_cons_succ, i64_w, i32_w]
                      rfl
                    refine pure_ (i := 10) (N := some 168) (v := ?_) (a' := ?_) #[true, true, true, true, true, true, true, true, true, true, true] rfl rfl (by kernel_rfl) (fun _ _ _ h => h) (Or.inl ⟨by rfl, ?_⟩) ?_ ?_
                    rotate_left
                    · intro w'
                      go_simp
                      with_reducible rfl
                    rotate_left
                    · simp only [Act.put, List.setIfInBounds_toArray, List.set_cons_zero, List.set_cons_succ, i64_w, i32_w]
                      rfl
                    refine done_ (by kernel_rfl) ?_
                    clear hHeld
                    go_wp2_with fail
                    go_roundw
                    case rel => exact ⟨j + 1, by omega, by go_num, TK, HW2⟩
                    case measure => simp [intOf]; omega
                  · have hrun := row_diff x y hxy
                    go_upto_region 23 with fail
                    refine start_ (n := 11) (S := fun w' => w'.cell? ⟨w.heap.size, 11, none⟩ = some (.slice (some ad) na4 ca4) ∧ w'.cell? ⟨w.heap.size + 1, 11, none⟩ = some (.slice (some bd) na4 cb4) ∧ w'.cell? (ad.add (j * 5)) = some (.string x.1.1) ∧ w'.cell? ⟨(ad.add (j * 5)).block, (ad.add (j * 5)).off + 1, none⟩ = some (.string x.1.2.1) ∧ w'.cell? ⟨(ad.add (j * 5)).block, (ad.add (j * 5)).off + 2, none⟩ = some (.string x.1.2.2) ∧ w'.cell? ⟨(ad.add (j * 5)).block, (ad.add (j * 5)).off + 3, none⟩ = some (.int .i64 x.2.1) ∧ w'.cell? ⟨(ad.add (j * 5)).block, (ad.add (j * 5)).off + 4, none⟩ = some (.int .i64 x.2.2) ∧ w'.cell? (bd.add (j * 5)) = some (.string y.1.1) ∧ w'.cell? ⟨(bd.add (j * 5)).block, (bd.add (j * 5)).off + 1, none⟩ = some (.string y.1.2.1) ∧ w'.cell? ⟨(bd.add (j * 5)).block, (bd.add (j * 5)).off + 2, none⟩ = some (.string y.1.2.2) ∧ w'.cell? ⟨(bd.add (j * 5)).block, (bd.add (j * 5)).off + 3, none⟩ = some (.int .i64 y.2.1) ∧ w'.cell? ⟨(bd.add (j * 5)).block, (bd.add (j * 5)).off + 4, none⟩ = some (.int .i64 y.2.2)) (ds := []) #[false, false, false, false, false, false, false, false, false, false, false] (by kernel_rfl) rfl rfl ⟨ka, kb, ka0', ka1, ka2, ka3, ka4, kb0', kb1, kb2, kb3, kb4⟩ (fun hHeld => ?_)
                    refine pure_ (i := 0) (N := some 158) (v := ?_) (a' := ?_) #[true, false, false, false, false, false, false, false, false, false, false] rfl rfl (by kernel_rfl) (fun _ _ _ h => h) (Or.inl ⟨by rfl, ?_⟩) ?_ ?_
                    rotate_left
                    · intro w'
                      go_simp
                      with_reducible rfl
                    rotate_left
                    · simp only [Act.put, List.setIfInBounds_toArray, List.set_cons_zero, List.set_cons_succ, i64_w, i32_w]
                      rfl
                    refine pure_ (i := 2) (N := some 160) (v := ?_) (a' := ?_) #[true, false, true, false, false, false, false, false, false, false, false] rfl rfl (by kernel_rfl) (fun _ _ _ h => h) (Or.inl ⟨by rfl, ?_⟩) ?_ ?_
                    rotate_left
                    · intro w'
                      go_simp
                      with_reducible rfl
                    rotate_left
                    · simp only [Act.put, List.setIfInBounds_toArray, List.set_cons_zero, List.set_cons_succ, i64_w, i32_w]
                      rfl
                    refine pure_ (i := 5) (N := some 163) (v := ?_) (a' := ?_) #[true, false, true, false, false, true, false, false, false, false, false] rfl rfl (by kernel_rfl) (fun _ _ _ h => h) (Or.inl ⟨by rfl, ?_⟩) ?_ ?_
                    rotate_left
                    · intro w'
                      go_simp
                      with_reducible rfl
                    rotate_left
                    · simp only [Act.put, List.setIfInBounds_toArray, List.set_cons_zero, List.set_cons_succ, i64_w, i32_w]
                      rfl
                    refine pure_ (i := 7) (N := some 165) (v := ?_) (a' := ?_) #[true, false, true, false, false, true, false, true, false, false, false] rfl rfl (by kernel_rfl) (fun _ _ _ h => h) (Or.inl ⟨by rfl, ?_⟩) ?_ ?_
                    rotate_left
                    · intro w'
                      go_simp
                      with_reducible rfl
                    rotate_left
                    · simp only [Act.put, List.setIfInBounds_toArray, List.set_cons_zero, List.set_cons_succ, i64_w, i32_w]
                      rfl
                    refine take_ (i := 1) (N := some 159) (v := ?_) (a' := ?_) #[true, true, true, false, false, true, false, true, false, false, false] rfl rfl (by kernel_rfl) (fun _ _ _ h => h) (Or.inl ⟨by rfl, ?_⟩) hHeld ?_ ?_
                    rotate_left
                    · rintro w' ⟨s0, s1, s2, s3, s4, s5, s6, s7, s8, s9, s10, s11⟩
                      go_simp
                      with_reducible rfl
                    rotate_left
                    · simp only [Act.put, List.setIfInBounds_toArray, List.set_cons_zero, List.set_cons_succ, i64_w, i32_w]
                      rfl
                    refine pure_ (i := 3) (N := some 161) (v := ?_) (a' := ?_) #[true, true, true, true, false, true, false, true, false, false, false] rfl rfl (by kernel_rfl) (fun _ _ _ h => h) (Or.inl ⟨by rfl, ?_⟩) ?_ ?_
                    rotate_left
                    · intro w'
                      go_simp
                      with_reducible rfl
                    rotate_left
                    · simp only [Act.put, List.setIfInBounds_toArray, List.set_cons_zero, List.set_cons_succ, i64_w, i32_w]
                      rfl
                    refine take_ (i := 4) (N := some 162) (v := ?_) (a' := ?_) #[true, true, true, true, true, true, false, true, false, false, false] rfl rfl (by kernel_rfl) (fun _ _ _ h => h) (Or.inl ⟨by rfl, ?_⟩) hHeld ?_ ?_
                    rotate_left
                    · rintro w' ⟨s0, s1, s2, s3, s4, s5, s6, s7, s8, s9, s10, s11⟩
                      go_simp
                      with_reducible rfl
                    rotate_left
                    · simp only [Act.put, List.setIfInBounds_toArray, List.set_cons_zero, List.set_cons_succ, i64_w, i32_w]
                      rfl
                    refine take_ (i := 6) (N := some 164) (v := ?_) (a' := ?_) #[true, true, true, true, true, true, true, true, false, false, false] rfl rfl (by kernel_rfl) (fun _ _ _ h => h) (Or.inl ⟨by rfl, ?_⟩) hHeld ?_ ?_
                    rotate_left
                    · rintro w' ⟨s0, s1, s2, s3, s4, s5, s6, s7, s8, s9, s10, s11⟩
                      go_simp
                      with_reducible rfl
                    rotate_left
                    · simp only [Act.put, List.setIfInBounds_toArray, List.set_cons_zero, List.set_cons_succ, i64_w, i32_w]
                      rfl
                    refine pure_ (i := 8) (N := some 166) (v := ?_) (a' := ?_) #[true, true, true, true, true, true, true, true, true, false, false] rfl rfl (by kernel_rfl) (fun _ _ _ h => h) (Or.inl ⟨by rfl, ?_⟩) ?_ ?_
                    rotate_left
                    · intro w'
                      go_simp
                      with_reducible rfl
                    rotate_left
                    · simp only [Act.put, List.setIfInBounds_toArray, List.set_cons_zero, List.set_cons_succ, i64_w, i32_w]
                      rfl
                    refine take_ (i := 9) (N := some 167) (v := ?_) (a' := ?_) #[true, true, true, true, true, true, true, true, true, true, false] rfl rfl (by kernel_rfl) (fun _ _ _ h => h) (Or.inl ⟨by rfl, ?_⟩) hHeld ?_ ?_
                    rotate_left
                    · rintro w' ⟨s0, s1, s2, s3, s4, s5, s6, s7, s8, s9, s10, s11⟩
                      go_simp
                      with_reducible rfl
                    rotate_left
                    · simp only [Act.put, List.setIfInBounds_toArray, List.set_cons_zero, List.set_cons_succ, i64_w, i32_w]
                      rfl
                    refine pure_ (i := 10) (N := some 168) (v := ?_) (a' := ?_) #[true, true, true, true, true, true, true, true, true, true, true] rfl rfl (by kernel_rfl) (fun _ _ _ h => h) (Or.inl ⟨by rfl, ?_⟩) ?_ ?_
                    rotate_left
                    · intro w'
                      go_simp
                      with_reducible rfl
                    rotate_left
                    · simp only [Act.put, List.setIfInBounds_toArray, List.set_cons_zero, List.set_cons_succ, i64_w, i32_w]
                      rfl
                    refine done_ (by kernel_rfl) ?_
                    clear hHeld
                    go_wp2_with fail
                    go_ret
                    exact SamePost.no rfl (fun h => by simp only [Msg.mk.injEq, true_and] at h; exact hxy (by have h2 := hxa.out; rw [h.2.2.2, hxb.out] at h2; exact (Option.some.inj h2).symm)) HW2.out.below
                · obtain rfl : na4 = j := by omega
                  have E4 : Aside0 (rs = rs') := ⟨by have h := HT.out; rwa [List.take_of_length_le (by rw [Ca4.out.1]; exact Nat.le_refl _), List.take_of_length_le (by rw [Cb4.out.1]; exact Nat.le_refl _)] at h⟩
                  go_wp2_with fail
                  clear ka kb HT hlt hj
                  have H6 := HW
                  clear HW
                  go_ret
                  exact SamePost.yes rfl (by rw [E1.out, E2.out, E3.out, E4.out]) H6.out.below
end Go.Proofs.Ytckdkbjobipniaa
