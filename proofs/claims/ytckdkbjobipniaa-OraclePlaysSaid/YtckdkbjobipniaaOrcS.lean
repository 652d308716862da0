/- Two lists of messages alike (porter/porterlaw14). Printed by wip/gen/logs.py. -/
import Derived.Test.YtckdkbjobipniaaLogA
import Derived.Test.YtckdkbjobipniaaCK
set_option linter.unusedVariables false
set_option linter.unusedSimpArgs false
namespace Go.Proofs.Ytckdkbjobipniaa
open Go.RowKit Go.Proofs.YtckdkbjobipniaaW.PrintWords Go.Proofs.YtckdkbjobipniaaW.PrintLast
set_option maxHeartbeats 6400000 in
set_option maxRecDepth 100000 in
theorem osame_ok (A : Option Addr) (n c : Nat) (la : List MH) (B : Option Addr) (m d : Nat) (lb : List MH) (w : World) (hA : MsgsC w A n la) (hB : MsgsC w B m lb) :
    Calls Try.prog 47 #[.slice A n c, .slice B m d] w fun e w' => AlikePost w (la.map (·.m)) (lb.map (·.m)) e w' := by
  have HA := Aside0.mk hA
  have HB := Aside0.mk hB
  have hma := hA.max
  have hmb := hB.max
  have LA := Aside0.mk hA.len
  have LB := Aside0.mk hB.len
  have B0 : Aside0 (Below w.heap.size w w) := ⟨(Hw.start w).below⟩
  clear hA hB
  by_cases hnm : n = m
  · subst hnm
    go_enter Try.func47, Try.ntmps47
    go_wp2_with fail
    go_loopw [13] (fun i wr => ∃ j : Nat, j ≤ n ∧ i = .int .i64 j ∧ Aside0 ((la.map (·.m)).take j = (lb.map (·.m)).take j) ∧ Aside0 (Below w.heap.size w wr)) (fun i _ => n - (intOf i).toNat)
    case atStart => exact ⟨0, Nat.zero_le _, rfl, ⟨by simp⟩, B0⟩
    case round =>
      obtain ⟨j, hj, rfl, HT, BR⟩ := hrel
      by_cases hlt : j < n
      · obtain ⟨ad, x, rfl, hxa, XC, XA⟩ := msgs_at (HA.out.below BR.out) j hlt
        obtain ⟨bd, y, rfl, hyb, YC, YA⟩ := msgs_at (HB.out.below BR.out) j hlt
        have hd0 : Below wr.heap.size wr wr.drew := (Hw.start wr).drew.below
        have qa := XA.out.below hd0
        have qb := YA.out.below hd0
        have SM := Aside0.mk (same_ok x.m.kind y.m.kind x.m.src y.m.src x.m.dst y.m.dst x.m.id y.m.id x.m.rev y.m.rev x.m.epoch y.m.epoch x.m.slot y.m.slot x.m.flag y.m.flag x.m.nodes y.m.nodes x.m.muts y.m.muts x.m.pre y.m.pre x.m.rows y.m.rows x.s1.1 x.s2.1 x.s3.1 x.s4.1 y.s1.1 y.s2.1 y.s3.1 y.s4.1 x.s1.2.1 x.s2.2.1 x.s3.2.1 x.s4.2.1 x.s1.2.2 x.s2.2.2 x.s3.2.2 x.s4.2.2 y.s1.2.1 y.s2.2.1 y.s3.2.1 y.s4.2.1 y.s1.2.2 y.s2.2.2 y.s3.2.2 y.s4.2.2 _ (XC.out.below hd0) (YC.out.below hd0))
        go_upto_region 6 with fail
        refine start_ (n := 10) (S := fun w' => w'.cell? (ad.add (j * 12)) = some (.int .i64 x.m.kind) ∧ w'.cell? ⟨(ad.add (j * 12)).block, (ad.add (j * 12)).off + 1, none⟩ = some (.int .i64 x.m.src) ∧ w'.cell? ⟨(ad.add (j * 12)).block, (ad.add (j * 12)).off + 2, none⟩ = some (.int .i64 x.m.dst) ∧ w'.cell? ⟨(ad.add (j * 12)).block, (ad.add (j * 12)).off + 3, none⟩ = some (.int .i64 x.m.id) ∧ w'.cell? ⟨(ad.add (j * 12)).block, (ad.add (j * 12)).off + 4, none⟩ = some (.int .i64 x.m.rev) ∧ w'.cell? ⟨(ad.add (j * 12)).block, (ad.add (j * 12)).off + 5, none⟩ = some (.int .i64 x.m.epoch) ∧ w'.cell? ⟨(ad.add (j * 12)).block, (ad.add (j * 12)).off + 6, none⟩ = some (.int .i64 x.m.slot) ∧ w'.cell? ⟨(ad.add (j * 12)).block, (ad.add (j * 12)).off + 7, none⟩ = some (.bool x.m.flag) ∧ w'.cell? ⟨(ad.add (j * 12)).block, (ad.add (j * 12)).off + 8, none⟩ = some (.slice x.s1.1 x.s1.2.1 x.s1.2.2) ∧ w'.cell? ⟨(ad.add (j * 12)).block, (ad.add (j * 12)).off + 9, none⟩ = some (.slice x.s2.1 x.s2.2.1 x.s2.2.2) ∧ w'.cell? ⟨(ad.add (j * 12)).block, (ad.add (j * 12)).off + 10, none⟩ = some (.slice x.s3.1 x.s3.2.1 x.s3.2.2) ∧ w'.cell? ⟨(ad.add (j * 12)).block, (ad.add (j * 12)).off + 11, none⟩ = some (.slice x.s4.1 x.s4.2.1 x.s4.2.2) ∧ w'.cell? (bd.add (j * 12)) = some (.int .i64 y.m.kind) ∧ w'.cell? ⟨(bd.add (j * 12)).block, (bd.add (j * 12)).off + 1, none⟩ = some (.int .i64 y.m.src) ∧ w'.cell? ⟨(bd.add (j * 12)).block, (bd.add (j * 12)).off + 2, none⟩ = some (.int .i64 y.m.dst) ∧ w'.cell? ⟨(bd.add (j * 12)).block, (bd.add (j * 12)).off + 3, none⟩ = some (.int .i64 y.m.id) ∧ w'.cell? ⟨(bd.add (j * 12)).block, (bd.add (j * 12)).off + 4, none⟩ = some (.int .i64 y.m.rev) ∧ w'.cell? ⟨(bd.add (j * 12)).block, (bd.add (j * 12)).off + 5, none⟩ = some (.int .i64 y.m.epoch) ∧ w'.cell? ⟨(bd.add (j * 12)).block, (bd.add (j * 12)).off + 6, none⟩ = some (.int .i64 y.m.slot) ∧ w'.cell? ⟨(bd.add (j * 12)).block, (bd.add (j * 12)).off + 7, none⟩ = some (.bool y.m.flag) ∧ w'.cell? ⟨(bd.add (j * 12)).block, (bd.add (j * 12)).off + 8, none⟩ = some (.slice y.s1.1 y.s1.2.1 y.s1.2.2) ∧ w'.cell? ⟨(bd.add (j * 12)).block, (bd.add (j * 12)).off + 9, none⟩ = some (.slice y.s2.1 y.s2.2.1 y.s2.2.2) ∧ w'.cell? ⟨(bd.add (j * 12)).block, (bd.add (j * 12)).off + 10, none⟩ = some (.slice y.s3.1 y.s3.2.1 y.s3.2.2) ∧ w'.cell? ⟨(bd.add (j * 12)).block, (bd.add (j * 12)).off + 11, none⟩ = some (.slice y.s4.1 y.s4.2.1 y.s4.2.2)) (ds := []) #[false, false, false, false, false, false, false, false, false, false] (by kernel_rfl) rfl rfl ⟨qa.c0, qa.c1, qa.c2, qa.c3, qa.c4, qa.c5, qa.c6, qa.c7, qa.c8, qa.c9, qa.c10, qa.c11, qb.c0, qb.c1, qb.c2, qb.c3, qb.c4, qb.c5, qb.c6, qb.c7, qb.c8, qb.c9, qb.c10, qb.c11⟩ (fun hHeld => ?_)
        refine pure_ (i := 0) (N := some 16) (v := ?_) (a' := ?_) #[true, false, false, false, false, false, false, false, false, false] rfl rfl (by kernel_rfl) (fun _ _ _ h => h) (Or.inl ⟨by rfl, ?_⟩) ?_ ?_
        rotate_left
        · intro w'
          go_simp
          with_reducible rfl
        rotate_left
        · simp only [Act.put, List.setIfInBounds_toArray, List.set_cons_zero, List.set_cons_succ, i64_w, i32_w]
          rfl
        refine pure_ (i := 1) (N := some 17) (v := ?_) (a' := ?_) #[true, true, false, false, false, false, false, false, false, false] rfl rfl (by kernel_rfl) (fun _ _ _ h => h) (Or.inl ⟨by rfl, ?_⟩) ?_ ?_
        rotate_left
        · intro w'
          go_simp
          with_reducible rfl
        rotate_left
        · simp only [Act.put, List.setIfInBounds_toArray, List.set_cons_zero, List.set_cons_succ, i64_w, i32_w]
          rfl
        refine pure_ (i := 2) (N := some 18) (v := ?_) (a' := ?_) #[true, true, true, false, false, false, false, false, false, false] rfl rfl (by kernel_rfl) (fun _ _ _ h => h) (Or.inl ⟨by rfl, ?_⟩) ?_ ?_
        rotate_left
        · intro w'
          go_simp
          with_reducible rfl
        rotate_left
        · simp only [Act.put, List.setIfInBounds_toArray, List.set_cons_zero, List.set_cons_succ, i64_w, i32_w]
          rfl
        refine pure_ (i := 4) (N := some 20) (v := ?_) (a' := ?_) #[true, true, true, false, true, false, false, false, false, false] rfl rfl (by kernel_rfl) (fun _ _ _ h => h) (Or.inl ⟨by rfl, ?_⟩) ?_ ?_
        rotate_left
        · intro w'
          go_simp
          with_reducible rfl
        rotate_left
        · simp only [Act.put, List.setIfInBounds_toArray, List.set_cons_zero, List.set_cons_succ, i64_w, i32_w]
          rfl
        refine pure_ (i := 5) (N := some 21) (v := ?_) (a' := ?_) #[true, true, true, false, true, true, false, false, false, false] rfl rfl (by kernel_rfl) (fun _ _ _ h => h) (Or.inl ⟨by rfl, ?_⟩) ?_ ?_
        rotate_left
        · intro w'
          go_simp
          with_reducible rfl
        rotate_left
        · simp only [Act.put, List.setIfInBounds_toArray, List.set_cons_zero, List.set_cons_succ, i64_w, i32_w]
          rfl
        refine pure_ (i := 6) (N := some 22) (v := ?_) (a' := ?_) #[true, true, true, false, true, true, true, false, false, false] rfl rfl (by kernel_rfl) (fun _ _ _ h => h) (Or.inl ⟨by rfl, ?_⟩) ?_ ?_
        rotate_left
        · intro w'
          go_simp
          with_reducible rfl
        rotate_left
        · simp only [Act.put, List.setIfInBounds_toArray, List.set_cons_zero, List.set_cons_succ, i64_w, i32_w]
          rfl
        refine take_ (i := 3) (N := some 19) (v := ?_) (a' := ?_) #[true, true, true, true, true, true, true, false, false, false] rfl rfl (by kernel_rfl) (fun _ _ _ h => h) (Or.inl ⟨by rfl, ?_⟩) hHeld ?_ ?_
        rotate_left
        · rintro w' ⟨s0, s1, s2, s3, s4, s5, s6, s7, s8, s9, s10, s11, s12, s13, s14, s15, s16, s17, s18, s19, s20, s21, s22, s23⟩
          go_simp
          with_reducible rfl
        rotate_left
        · simp only [Act.put, List.setIfInBounds_toArray, List.set_cons_zero, List.set_cons_succ, i64_w, i32_w]
          rfl
        refine take_ (i := 7) (N := some 23) (v := ?_) (a' := ?_) #[true, true, true, true, true, true, true, true, false, false] rfl rfl (by kernel_rfl) (fun _ _ _ h => h) (Or.inl ⟨by rfl, ?_⟩) hHeld ?_ ?_
        rotate_left
        · rintro w' ⟨s0, s1, s2, s3, s4, s5, s6, s7, s8, s9, s10, s11, s12, s13, s14, s15, s16, s17, s18, s19, s20, s21, s22, s23⟩
          go_simp
          with_reducible rfl
        rotate_left
        · simp only [Act.put, List.setIfInBounds_toArray, List.set_cons_zero, List.set_cons_succ, i64_w, i32_w]
          rfl
        refine one_ (i := 8) (N := some 24) #[true, true, true, true, true, true, true, true, true, false] rfl rfl (by kernel_rfl) (by decide) (fun K hK => ?_)
        refine goes_ Try.func16 (by kernel_rfl) rfl #[.agg #[.int .i64 x.m.kind, .int .i64 x.m.src, .int .i64 x.m.dst, .int .i64 x.m.id, .int .i64 x.m.rev, .int .i64 x.m.epoch, .int .i64 x.m.slot, .bool x.m.flag, .slice x.s1.1 x.s1.2.1 x.s1.2.2, .slice x.s2.1 x.s2.2.1 x.s2.2.2, .slice x.s3.1 x.s3.2.1 x.s3.2.2, .slice x.s4.1 x.s4.2.1 x.s4.2.2], .agg #[.int .i64 y.m.kind, .int .i64 y.m.src, .int .i64 y.m.dst, .int .i64 y.m.id, .int .i64 y.m.rev, .int .i64 y.m.epoch, .int .i64 y.m.slot, .bool y.m.flag, .slice y.s1.1 y.s1.2.1 y.s1.2.2, .slice y.s2.1 y.s2.2.1 y.s2.2.2, .slice y.s3.1 y.s3.2.1 y.s3.2.2, .slice y.s4.1 y.s4.2.1 y.s4.2.2]] (by rfl) rfl rfl (by simp only [List.map_toArray, List.map_cons, List.map_nil]; rfl) ?_
        with_reducible refine (SM.out).mono ?_
        rintro e w4 ⟨bb, rfl, hbb, hbel⟩
        refine ⟨_, rfl, ?_⟩
        have ra := XA.out.below (hd0.trans (hbel.mono hd0.size))
        have rb := YA.out.below (hd0.trans (hbel.mono hd0.size))
        refine hK.out _ _ ⟨ra.c0, ra.c1, ra.c2, ra.c3, ra.c4, ra.c5, ra.c6, ra.c7, ra.c8, ra.c9, ra.c10, ra.c11, rb.c0, rb.c1, rb.c2, rb.c3, rb.c4, rb.c5, rb.c6, rb.c7, rb.c8, rb.c9, rb.c10, rb.c11⟩ (fun hHeld => ?_)
        clear hK K
        refine norm_ (a' := ?_) ?_ ?_
        rotate_left
        · show Act.put _ (some 24) _ = _
          simp only [Act.put, List.setIfInBounds_toArray, List.set_cons_zero, List.set_cons_succ, i64_w, i32_w]
          rfl
        refine pure_ (i := 9) (N := some 25) (v := ?_) (a' := ?_) #[true, true, true, true, true, true, true, true, true, true] rfl rfl (by kernel_rfl) (fun _ _ _ h => h) (Or.inl ⟨by rfl, ?_⟩) ?_ ?_
        rotate_left
        · intro w'
          go_simp
          with_reducible rfl
        rotate_left
        · simp only [Act.put, List.setIfInBounds_toArray, List.set_cons_zero, List.set_cons_succ, i64_w, i32_w]
          rfl
        refine done_ (by kernel_rfl) ?_
        clear hHeld
        have B2 := Aside0.mk (BR.out.trans ((hd0.trans (hbel.mono hd0.size)).mono BR.out.size))
        cases bb with
        | false =>
          have hne : x.m ≠ y.m := fun h => by have := hbb.2 h; cases this
          clear hbb hbel qa qb hd0 ra rb SM
          go_wp2_with fail
          go_ret
          refine AlikePost.no rfl (fun h => ?_) B2.out
          have h1 : (la.map (·.m))[j]? = some x.m := by rw [List.getElem?_map, hxa.out]; rfl
          rw [h, List.getElem?_map, hyb.out] at h1
          exact absurd (by injection h1 with h1; exact h1.symm) hne
        | true =>
          have heq : x.m = y.m := hbb.1 rfl
          have TK := Aside0.mk (show (la.map (·.m)).take (j + 1) = (lb.map (·.m)).take (j + 1) by
            rw [take_snoc_of (x := x.m) (by rw [List.getElem?_map, hxa.out]; rfl), take_snoc_of (x := y.m) (by rw [List.getElem?_map, hyb.out]; rfl), HT.out, heq])
          clear hbb hbel qa qb hd0 ra rb SM heq
          go_wp2_with fail
          go_roundw
          case rel => exact ⟨j + 1, by omega, by go_num, TK, B2⟩
          case measure => simp [intOf]; omega
      · have hjn : j = n := by omega
        subst hjn
        go_wp2_with fail
        go_ret
        refine AlikePost.yes rfl ?_ BR.out
        have h := HT.out
        rwa [List.take_of_length_le (by rw [List.length_map, LA.out]; omega), List.take_of_length_le (by rw [List.length_map, LB.out]; omega)] at h
  · have d1 : ((n : Int) != m) = true := by simp; omega
    have d2 : ((n : Int) == m) = false := by simp; omega
    go_enter Try.func47, Try.ntmps47
    go_wp2_with fail
    go_ret
    refine AlikePost.no rfl (fun h => ?_) B0.out
    have := congrArg List.length h
    rw [List.length_map, List.length_map, LA.out, LB.out] at this
    exact absurd this hnm
end Go.Proofs.Ytckdkbjobipniaa
