/- OracleRises' walk. Printed by wip/gen/oracler.py. -/
import Derived.Test.YtckdkbjobipniaaOrcK
import Derived.Test.YtckdkbjobipniaaRefDisk
import Derived.Deep.DeepCutAuto
import Derived.Deep.CutBlock
set_option linter.unusedVariables false
set_option linter.unusedSimpArgs false
namespace Go.Proofs.Ytckdkbjobipniaa
open Go.RowKit Go.Maps Go.Proofs.YtckdkbjobipniaaW.PrintWords Go.Proofs.YtckdkbjobipniaaW.PrintLast
theorem add_fieldP (ad : Addr) (k i : Nat) (hi : i ≠ 0) : ad.add (k + i) = ⟨(ad.add k).block, (ad.add k).off + i, none⟩ := by
  unfold Addr.add
  by_cases hk : k = 0
  · subst hk; simp [hi]
  · simp [hk, hi]; omega
set_option maxHeartbeats 12800000 in
set_option maxRecDepth 100000 in
theorem oracleRises_ok (A : Option Addr) (n c : Nat) (ys : List TP) (room : Int) (w : World) (hA : KOp14.C w A n ys) (hS : ∀ y ∈ ys, sP0 y) (h0 : 0 ≤ room) (h1 : room ≤ 1048576) (hnn : n ≤ 140737488351232) :
    Calls Try.prog 6 #[.slice A n c, .int .i64 room] w fun e w' => e = .returned (.bool true) ∧ Below w.heap.size w w' := by
  have HA := Aside0.mk hA
  have HS := Aside0.mk hS
  have hm := hA.2.1
  have R0 := Aside0.mk h0
  have R1 := Aside0.mk h1
  have hmm := @run_makeMap Try.prog
  clear hA hS h0 h1
  go_enter Try.func6, Try.ntmps6
  go_wp2_with fail
  refine (oawake_ok w).mono ?_
  rintro e w1 ⟨rfl, g1⟩
  have H1 := Aside0.mk ((Hw.start w).from_below g1)
  clear g1
  go_wp2_with fail
  refine (new_ok room R0.out R1.out H1.out).mono ?_
  rintro e w2 ⟨p, rfl, g2⟩
  have H2 := Aside0.mk g2
  clear g2 H1
  go_wp2_with fail
  refine (oopened_run (ms := []) H2.out (OrcMs.nil R0.out R1.out)).mono ?_
  rintro e w3 ⟨o, rfl, g3⟩
  obtain ⟨G, HG, back⟩ := orcOn_open g3
  have H3 := Aside0.mk (back _ _ ((map_made (P := Try.prog) (k := 2) HG).as (by rw [← HP.assoc, HP.mul_emp] : _ = mapHP Try.prog 2 w3.heap.size noF 0 * G)))
  clear g3 H2 HG back
  go_wp2_with fail
  obtain ⟨mb, hmb⟩ : ∃ mb, mb = w3.heap.size := ⟨_, rfl⟩
  rw [← hmb] at H3
  rw [← hmb]
  clear hmb hmm
  go_loopw [35, 7, 9, 10] (fun i o7 s9 s10 wr => ∃ (j : Nat) (o : Nat) (ms : List Msg) (g : Lit → Option Value) (k : Nat) (la cl : Int), j ≤ n ∧ k ≤ j ∧ i = .int .i64 j ∧ o7 = .pointer (some ⟨o, 0, none⟩) ∧ s9 = .int .i64 la ∧ s10 = .int .i64 cl ∧ Aside0 (OrcMs ms room) ∧ Aside0 (olast (oopen ms) ≤ ms.length) ∧ Aside0 (MapIs g (oopen ms)) ∧ Aside0 (olast (oopen ms) = la) ∧ Aside0 (oclosed (oopen ms) = cl) ∧ Aside0 (OrcOn w wr (mapHP Try.prog 2 mb g k) o p ms room))
    (fun i _ _ _ _ => n - (intOf i).toNat)
  case atStart => exact ⟨0, o, [], noF, 0, 0, 0, Nat.zero_le _, Nat.zero_le _, rfl, rfl, rfl, rfl, ⟨OrcMs.nil R0.out R1.out⟩, ⟨by decide⟩, ⟨fun _ => rfl⟩, ⟨by decide⟩, ⟨by decide⟩, H3⟩
  case round =>
    obtain ⟨j, o, ms, g, k, la, cl, hj, hkj, rfl, rfl, rfl, rfl, OM, OL, MI, LA, CL, HW⟩ := hrel
    clear H3
    by_cases hlt : j < n
    · obtain ⟨ad, ⟨kind, src, id, ⟨m, ⟨A1, n1, c1⟩, ⟨A2, n2, c2⟩, ⟨A3, n3, c3⟩, ⟨A4, n4, c4⟩⟩⟩, rfl, OK, hcl⟩ := op14_at HA.out HS.out j hlt
      have WB := HW.out.below
      have k0 : wr.cell? (ad.add (j * 15)) = some (.int .i64 kind) := pw_cell_below WB (hcl 0 _ rfl)
      have k1 : wr.cell? ⟨(ad.add (j * 15)).block, (ad.add (j * 15)).off + 1, none⟩ = some (.int .i64 src) := by
        have h := hcl 1 _ rfl
        rw [add_fieldP _ _ _ (by decide)] at h
        exact pw_cell_below WB h
      have k2 : wr.cell? ⟨(ad.add (j * 15)).block, (ad.add (j * 15)).off + 2, none⟩ = some (.int .i64 id) := by
        have h := hcl 2 _ rfl
        rw [add_fieldP _ _ _ (by decide)] at h
        exact pw_cell_below WB h
      have k3 : wr.cell? ⟨(ad.add (j * 15)).block, (ad.add (j * 15)).off + 3, none⟩ = some (.int .i64 m.kind) := by
        have h := hcl 3 _ rfl
        rw [add_fieldP _ _ _ (by decide)] at h
        exact pw_cell_below WB h
      have k4 : wr.cell? ⟨(ad.add (j * 15)).block, (ad.add (j * 15)).off + 4, none⟩ = some (.int .i64 m.src) := by
        have h := hcl 4 _ rfl
        rw [add_fieldP _ _ _ (by decide)] at h
        exact pw_cell_below WB h
      have k5 : wr.cell? ⟨(ad.add (j * 15)).block, (ad.add (j * 15)).off + 5, none⟩ = some (.int .i64 m.dst) := by
        have h := hcl 5 _ rfl
        rw [add_fieldP _ _ _ (by decide)] at h
        exact pw_cell_below WB h
      have k6 : wr.cell? ⟨(ad.add (j * 15)).block, (ad.add (j * 15)).off + 6, none⟩ = some (.int .i64 m.id) := by
        have h := hcl 6 _ rfl
        rw [add_fieldP _ _ _ (by decide)] at h
        exact pw_cell_below WB h
      have k7 : wr.cell? ⟨(ad.add (j * 15)).block, (ad.add (j * 15)).off + 7, none⟩ = some (.int .i64 m.rev) := by
        have h := hcl 7 _ rfl
        rw [add_fieldP _ _ _ (by decide)] at h
        exact pw_cell_below WB h
      have k8 : wr.cell? ⟨(ad.add (j * 15)).block, (ad.add (j * 15)).off + 8, none⟩ = some (.int .i64 m.epoch) := by
        have h := hcl 8 _ rfl
        rw [add_fieldP _ _ _ (by decide)] at h
        exact pw_cell_below WB h
      have k9 : wr.cell? ⟨(ad.add (j * 15)).block, (ad.add (j * 15)).off + 9, none⟩ = some (.int .i64 m.slot) := by
        have h := hcl 9 _ rfl
        rw [add_fieldP _ _ _ (by decide)] at h
        exact pw_cell_below WB h
      have k10 : wr.cell? ⟨(ad.add (j * 15)).block, (ad.add (j * 15)).off + 10, none⟩ = some (.bool m.flag) := by
        have h := hcl 10 _ rfl
        rw [add_fieldP _ _ _ (by decide)] at h
        exact pw_cell_below WB h
      have k11 : wr.cell? ⟨(ad.add (j * 15)).block, (ad.add (j * 15)).off + 11, none⟩ = some (.slice A1 n1 c1) := by
        have h := hcl 11 _ rfl
        rw [add_fieldP _ _ _ (by decide)] at h
        exact pw_cell_below WB h
      have k12 : wr.cell? ⟨(ad.add (j * 15)).block, (ad.add (j * 15)).off + 12, none⟩ = some (.slice A2 n2 c2) := by
        have h := hcl 12 _ rfl
        rw [add_fieldP _ _ _ (by decide)] at h
        exact pw_cell_below WB h
      have k13 : wr.cell? ⟨(ad.add (j * 15)).block, (ad.add (j * 15)).off + 13, none⟩ = some (.slice A3 n3 c3) := by
        have h := hcl 13 _ rfl
        rw [add_fieldP _ _ _ (by decide)] at h
        exact pw_cell_below WB h
      have k14 : wr.cell? ⟨(ad.add (j * 15)).block, (ad.add (j * 15)).off + 14, none⟩ = some (.slice A4 n4 c4) := by
        have h := hcl 14 _ rfl
        rw [add_fieldP _ _ _ (by decide)] at h
        exact pw_cell_below WB h
      clear hcl WB
      obtain ⟨b, hb⟩ : ∃ b, wr.heap.size = b := ⟨_, rfl⟩
      obtain ⟨G, HG, back⟩ := orcOn_open HW.out
      have BK := Aside0.mk back
      have HX := Aside0.mk (HG.alloc (.cells #[.int .i64 0, .int .i64 0, .int .i64 0, .int .i64 0, .int .i64 0, .int .i64 0, .int .i64 0, .int .i64 0, .int .i64 0, .int .i64 0, .bool false, .slice none 0 0, .slice none 0 0, .slice none 0 0, .slice none 0 0] 80))
      rw [hb] at HX
      clear HG back
      go_upto_block 2 with (refine Hw.store_row rfl 80 (.tmp 12) (.tmp 38) rfl b #[.int .i64 kind, .int .i64 src, .int .i64 id, .int .i64 m.kind, .int .i64 m.src, .int .i64 m.dst, .int .i64 m.id, .int .i64 m.rev, .int .i64 m.epoch, .int .i64 m.slot, .bool m.flag, .slice A1 n1 c1, .slice A2 n2 c2, .slice A3 n3 c3, .slice A4 n4 c4] (by simp [hb, go_sem]) rfl HX.out (by kernel_rfl) (by rfl) (by first | kernel_rfl | rfl | simp [Value.oneCell']) ?_; intro wa HB; have o0 := HB.out.cellAt b 0 (v := .int .i64 kind) rfl)
      have H0 := Aside0.mk (BK.out _ (blk b (.cells #[.int .i64 kind, .int .i64 src, .int .i64 id, .int .i64 m.kind, .int .i64 m.src, .int .i64 m.dst, .int .i64 m.id, .int .i64 m.rev, .int .i64 m.epoch, .int .i64 m.slot, .bool m.flag, .slice A1 n1 c1, .slice A2 n2 c2, .slice A3 n3 c3, .slice A4 n4 c4] 80) * mapHP Try.prog 2 mb g k) (HB.out.as (by rw [HP.assoc])))
      clear HX HW k0 k1 k2 k3 k4 k5 k6 k7 k8 k9 k10 k11 k12 k13 k14 hb HB BK
      have SR := Aside0.mk (show i64r src from OK.out.src)
      have IR := Aside0.mk (show i64r id from OK.out.id)
      have KY := Aside0.mk (keyOf_int_mk (P := Try.prog) Try.underlying2 (WalkArith.wf_i64 (by have h := IR.out; unfold i64r at h; omega) : (Lit.int .i64 id).wf = true))
      clear OK
      go_cut [7, 9] (fun o7 s9 wc => ∃ (o : Nat) (ms : List Msg) (g : Lit → Option Value) (k : Nat) (la : Int), k ≤ j + 1 ∧ o7 = .pointer (some ⟨o, 0, none⟩) ∧ s9 = .int .i64 la ∧ Aside0 (OrcMs ms room) ∧ Aside0 (olast (oopen ms) ≤ ms.length) ∧ Aside0 (MapIs g (oopen ms)) ∧ Aside0 (olast (oopen ms) = la) ∧ Aside0 (cl ≤ oclosed (oopen ms)) ∧ Aside0 (OrcOn w wc (blk b (.cells #[.int .i64 kind, .int .i64 src, .int .i64 id, .int .i64 m.kind, .int .i64 m.src, .int .i64 m.dst, .int .i64 m.id, .int .i64 m.rev, .int .i64 m.epoch, .int .i64 m.slot, .bool m.flag, .slice A1 n1 c1, .slice A2 n2 c2, .slice A3 n3 c3, .slice A4 n4 c4] 80) * mapHP Try.prog 2 mb g k) o p ms room))
      case first =>
        by_cases q0 : kind = 0
        · subst q0
          obtain ⟨G, HF, BK⟩ := orcOn_open H0.out
          have HF := Aside0.mk (HF.as (HP.assoc _ _ _))
          have o1 := HF.out.cellAt b 1 (v := .int .i64 src) rfl
          have o2 := HF.out.cellAt b 2 (v := .int .i64 id) rfl
          go_wp2_with fail
          clear o0 o1 o2 HF BK
          refine (oissue_run id src H0.out OM.out IR.out SR.out).mono ?_
          rintro e w5 ⟨ms2, r, k2, rfl, hA, g5⟩
          have H5 := Aside0.mk g5
          obtain ⟨l1, l2, l3⟩ := ask_law hA.out OM.out OL.out IR.out SR.out
          have OM2 := Aside0.mk l1
          have OL2 := Aside0.mk l2
          clear hA g5 l1 l2 H0
          obtain ⟨G, HF, BK⟩ := orcOn_open H5.out
          have BK := Aside0.mk BK
          have HF := Aside0.mk (HF.as (HP.assoc _ _ _))
          have o1 := HF.out.cellAt b 1 (v := .int .i64 src) rfl
          have o2 := HF.out.cellAt b 2 (v := .int .i64 id) rfl
          have HL := map_look (HF.out.at (mapHP Try.prog 2 mb g k)) (int_keyed Try.underlying2) Try.underlying93 (Try.zeroValue2 _) KY.out
          rw [MI.out id] at HL
          rcases l3 with ⟨rfl, a2, a3, a4⟩ | ⟨rfl, a2, a3, a4⟩ | ⟨rfl, a2, a3, a4⟩
          · subst a3
            rw [if_neg a2] at HL
            simp only [Option.getD_some] at HL
            have hrg := rev_range a2
            obtain ⟨rv, hrv⟩ : ∃ v, orev (oopen ms2) id = v := ⟨_, rfl⟩
            rw [LA.out] at hrg
            rw [hrv] at HL a4 a2 hrg
            subst a4
            have M2 := Aside0.mk (MI.out.again hrv a2)
            have e1 : (r != 0) = true := by simpa using a2
            have e2 : (r == 0) = false := by simpa using a2
            obtain ⟨w6, hput, h6⟩ := map_put (HF.out.at (mapHP Try.prog 2 mb g k)) (int_keyed Try.underlying2) Try.underlying93 (by unfold maxLen; omega) (.int .i64 r) KY.out
            obtain ⟨k3, hk3, h7⟩ : ∃ k3, k3 ≤ j + 1 ∧ Hw w w6 ((blk b (.cells #[.int .i64 0, .int .i64 src, .int .i64 id, .int .i64 m.kind, .int .i64 m.src, .int .i64 m.dst, .int .i64 m.id, .int .i64 m.rev, .int .i64 m.epoch, .int .i64 m.slot, .bool m.flag, .slice A1 n1 c1, .slice A2 n2 c2, .slice A3 n3 c3, .slice A4 n4 c4] 80) * mapHP Try.prog 2 mb (putF g (.int .i64 id) (.int .i64 r)) k3) * G) := by
              refine ⟨_, ?_, h6.as (by ac_rfl)⟩
              split <;> omega
            have H7 := Aside0.mk (BK.out _ _ h7)
            have mx : max la r = la := by omega
            have mx2 : ¬ la < r := by omega
            have mx3 : decide (la < r) = false := decide_eq_false mx2
            have mx4 : decide (r < la) = decide (r < la) := rfl
            clear h6 h7 hrv hrg a2 H5
            go_wp2_with fail
            go_meet
            exact ⟨o, ms2, _, k3, la, hk3, rfl, by first | rfl | rw [mx], OM2, OL2, M2, LA, ⟨Int.le_of_eq CL.out.symm⟩, H7⟩
          · rw [if_pos a2] at HL
            simp only [Option.getD_none] at HL
            rw [LA.out] at a3
            subst a3
            have hla := OM.out.last.1
            rw [LA.out] at hla
            have e1 : decide (la + 1 ≤ la) = false := decide_eq_false (by omega)
            have E2 := Aside0.mk (show oopen ms2 = ⟨(oopen ms).iss ++ [⟨src, id, la + 1⟩], (oopen ms).done⟩ by
              rw [a4, oopen_snoc, oreplay_new a2 (by rw [LA.out]; omega)])
            have M2 := Aside0.mk (show MapIs (putF g (.int .i64 id) (.int .i64 (la + 1))) (oopen ms2) by
              rw [E2.out]
              exact MI.out.put (oopen_ok ms) a2 (by omega))
            have LA2 := Aside0.mk (show olast (oopen ms2) = la + 1 by rw [E2.out, olast_snoc])
            have CL2 := Aside0.mk (show cl ≤ oclosed (oopen ms2) by
              have h := closed_new (oopen_ok ms) (a := src) a2
              rw [LA.out, CL.out] at h
              rw [E2.out, h]
              exact Int.le_refl _)
            obtain ⟨r, hr⟩ : ∃ r, r = la + 1 := ⟨_, rfl⟩
            rw [← hr] at e1 M2 LA2 ⊢
            obtain ⟨w6, hput, h6⟩ := map_put (HF.out.at (mapHP Try.prog 2 mb g k)) (int_keyed Try.underlying2) Try.underlying93 (by unfold maxLen; omega) (.int .i64 r) KY.out
            obtain ⟨k3, hk3, h7⟩ : ∃ k3, k3 ≤ j + 1 ∧ Hw w w6 ((blk b (.cells #[.int .i64 0, .int .i64 src, .int .i64 id, .int .i64 m.kind, .int .i64 m.src, .int .i64 m.dst, .int .i64 m.id, .int .i64 m.rev, .int .i64 m.epoch, .int .i64 m.slot, .bool m.flag, .slice A1 n1 c1, .slice A2 n2 c2, .slice A3 n3 c3, .slice A4 n4 c4] 80) * mapHP Try.prog 2 mb (putF g (.int .i64 id) (.int .i64 r)) k3) * G) := by
              refine ⟨_, ?_, h6.as (by ac_rfl)⟩
              split <;> omega
            have H7 := Aside0.mk (BK.out _ _ h7)
            have mx : max la r = r := by omega
            have mx2 : la < r := by omega
            have mx3 : decide (la < r) = true := decide_eq_true mx2
            have mx4 : decide (r < la) = false := decide_eq_false (by omega)
            clear h6 h7 H5 a4 hr
            go_wp2_with fail
            go_meet
            exact ⟨o, ms2, _, k3, r, hk3, rfl, by first | rfl | rw [mx], OM2, OL2, M2, LA2, CL2, H7⟩
          · rw [if_pos a2] at HL
            simp only [Option.getD_none] at HL
            subst a3
            rw [a4] at H5
            have H7 := Aside0.mk ((H5.out.as (HP.comm _ _)).drop)
            clear a2 a4 H5 BK
            go_wp2_with fail
            go_roundw
            case rel => exact ⟨j + 1, o, ms, g, k, la, cl, by omega, by omega, by go_num, rfl, rfl, rfl, OM, OL, MI, LA, CL, H7⟩
            case measure => simp [intOf]; omega
        · by_cases q1 : kind = 1
          · subst q1
            obtain ⟨G, HF, BK⟩ := orcOn_open H0.out
            have HF := Aside0.mk (HF.as (HP.assoc _ _ _))
            have o2 := HF.out.cellAt b 2 (v := .int .i64 id) rfl
            go_wp2_with fail
            clear o0 o2 HF BK
            refine (oresolve_run id H0.out OM.out IR.out).mono ?_
            rintro e w5 ⟨ms2, k2, rfl, hA, g5⟩
            have H5 := Aside0.mk g5
            obtain ⟨l1, l2, l3, l4, l5⟩ := settle_law hA.out OM.out OL.out IR.out
            have OM2 := Aside0.mk l1
            have OL2 := Aside0.mk l2
            have M2 := Aside0.mk (MI.out.iss l3)
            have LA2 := Aside0.mk (show olast (oopen ms2) = la by rw [← LA.out]; unfold olast; rw [l3])
            have CL2 := Aside0.mk (show cl ≤ oclosed (oopen ms2) by rw [← CL.out]; exact l4)
            clear hA g5 l1 l2 l3 l4 H0
            obtain ⟨G, HF, BK⟩ := orcOn_open H5.out
            have HF := Aside0.mk (HF.as (HP.assoc _ _ _))
            have o2 := HF.out.cellAt b 2 (v := .int .i64 id) rfl
            have HL := map_look (HF.out.at (mapHP Try.prog 2 mb g k)) (int_keyed Try.underlying2) Try.underlying93 (Try.zeroValue2 _) KY.out
            rw [MI.out id] at HL
            clear BK
            by_cases hv : orev (oopen ms) id = 0
            · rw [if_pos hv] at HL
              simp only [Option.getD_none] at HL
              obtain rfl := l5.2 hv
              clear l5 hv
              go_wp2_with fail
              go_meet
              exact ⟨o, ms2, g, k, la, by omega, rfl, rfl, OM2, OL2, M2, LA2, CL2, H5⟩
            · rw [if_neg hv] at HL
              simp only [Option.getD_some] at HL
              obtain ⟨rv, hrv⟩ : ∃ v, orev (oopen ms) id = v := ⟨_, rfl⟩
              rw [hrv] at HL hv
              have hk4 : ¬ k2 = 4 := fun h => hv (by rw [← hrv]; exact l5.1 h)
              have e1 : (rv == 0) = false := by simpa using hv
              have e2 : (k2 == 4) = false := by simpa using hk4
              clear l5 hv hrv hk4
              go_wp2_with fail
              go_meet
              exact ⟨o, ms2, g, k, la, by omega, rfl, rfl, OM2, OL2, M2, LA2, CL2, H5⟩
          · by_cases q2 : kind = 2
            · subst q2
              clear q0 q1
              go_wp2_with fail
              clear o0
              refine (ocrash_on H0.out).mono ?_
              rintro e w5 ⟨rfl, h5⟩
              have H5 := Aside0.mk h5
              clear h5 H0
              go_wp2_with fail
              refine (oopened_run H5.out OM.out).mono ?_
              rintro e w6 ⟨o2, rfl, h6⟩
              have H6 := Aside0.mk h6
              clear h6 H5
              go_wp2_with fail
              go_meet
              exact ⟨o2, ms, g, k, la, by omega, rfl, rfl, OM, OL, MI, LA, ⟨Int.le_of_eq CL.out.symm⟩, H6⟩
            · have e0 : (kind == 0) = false := by simpa using q0
              have e1 : (kind == 1) = false := by simpa using q1
              have e2 : (kind == 2) = false := by simpa using q2
              clear q0 q1 q2
              go_wp2_with fail
              go_meet
              exact ⟨o, ms, g, k, la, by omega, rfl, rfl, OM, OL, MI, LA, ⟨Int.le_of_eq CL.out.symm⟩, H0⟩
      case rest =>
        obtain ⟨o, ms', g', k', la', hk', rfl, rfl, OM', OL', MI', LA', CLE, HR⟩ := hcut
        clear H0 o0 CL LA MI OL
        obtain ⟨cl', hcl'⟩ : ∃ v, oclosed (oopen ms') = v := ⟨_, rfl⟩
        have CL' := Aside0.mk hcl'
        have b1 : cl ≤ cl' := by rw [← hcl']; exact CLE.out
        have b2 : cl' ≤ la' := by rw [← hcl', ← LA'.out]; exact closed_last (oopen_ok ms')
        have d1 : decide (cl' < cl) = false := decide_eq_false (by omega)
        have d2 : decide (la' < cl') = false := decide_eq_false (by omega)
        have d3 : decide (cl' > la') = false := decide_eq_false (by omega)
        obtain ⟨l, hl⟩ : ∃ l, l = opend (oopen ms') := ⟨_, rfl⟩
        obtain ⟨nl, hnl⟩ : ∃ v, l.length = v := ⟨_, rfl⟩
        have NLE : nl ≤ 1000000 := by
          have h1 := opend_len (oopen ms')
          have h2 := oopen_len ms'
          have h3 := OM'.out.cnt
          rw [← hl] at h1
          omega
        have NL := Aside0.mk hnl
        have OPL := Aside0.mk hl
        clear hcl' hl hnl CLE b1 b2
        go_wp2_with fail
        refine (closed_v HR.out OM'.out cl' CL'.out).mono ?_
        rintro e w6 ⟨rfl, rfl⟩
        go_wp2_with fail
        refine (closed_v HR.out OM'.out cl' CL'.out).mono ?_
        rintro e w6 ⟨rfl, rfl⟩
        go_wp2_with fail
        refine (olast_v HR.out la' LA'.out).mono ?_
        rintro e w6 ⟨rfl, rfl⟩
        go_wp2_with fail
        refine (closed_v HR.out OM'.out cl' CL'.out).mono ?_
        rintro e w6 ⟨rfl, rfl⟩
        go_wp2_with fail
        refine (pending_on HR.out OM'.out nl (by rw [← OPL.out]; exact NL.out)).mono ?_
        rintro e w7 ⟨AP, cP, rfl, g7⟩
        rw [← OPL.out] at g7
        have H7 := Aside0.mk g7
        clear g7 HR d1 d2 d3
        go_wp2_with fail
        go_loopw [144] (fun i wr => ∃ t : Nat, t ≤ nl ∧ i = .int .i64 t ∧ Aside0 (OrcOn w wr (crow 12 27 AP nl cP (issCells l) * (blk b (.cells #[.int .i64 kind, .int .i64 src, .int .i64 id, .int .i64 m.kind, .int .i64 m.src, .int .i64 m.dst, .int .i64 m.id, .int .i64 m.rev, .int .i64 m.epoch, .int .i64 m.slot, .bool m.flag, .slice A1 n1 c1, .slice A2 n2 c2, .slice A3 n3 c3, .slice A4 n4 c4] 80) * mapHP Try.prog 2 mb g' k')) o p ms' room))
          (fun i _ => nl - (intOf i).toNat)
        case atStart => exact ⟨0, Nat.zero_le _, rfl, H7⟩
        case round =>
          obtain ⟨t, ht, rfl, HI⟩ := hrel
          clear H7
          by_cases hlt : t < nl
          · obtain ⟨G, HG, back⟩ := orcOn_open HI.out
            have BK := Aside0.mk back
            have MS := Aside0.mk (iss_msgs (HG.as (HP.assoc _ _ _)) NL.out.symm NLE)
            have HX := Aside0.mk (HG.alloc (.cells #[.int .i64 0, .int .i64 0, .int .i64 0, .int .i64 0, .int .i64 0, .int .i64 0, .int .i64 0, .bool false, .slice none 0 0, .slice none 0 0, .slice none 0 0, .slice none 0 0] 27))
            clear HG back HI
            obtain ⟨ad, xh, rfl, hx, XC, XA⟩ := msgs_at MS.out t hlt
            obtain ⟨y, hy, rfl⟩ : ∃ y, l[t]? = some y ∧ xh = issMH y := by
              have h1 := hx.out
              rw [List.getElem?_map] at h1
              cases h2 : l[t]? with
              | none => rw [h2] at h1; exact absurd h1 (by simp)
              | some y => rw [h2] at h1; exact ⟨y, rfl, by injection h1 with h1; exact h1.symm⟩
            have HY := Aside0.mk hy
            have x0 : wr.cell? (ad.add (t * 12)) = some (.int .i64 1) := XA.out.c0
            have x1 : wr.cell? ⟨(ad.add (t * 12)).block, (ad.add (t * 12)).off + 1, none⟩ = some (.int .i64 y.src) := XA.out.c1
            have x2 : wr.cell? ⟨(ad.add (t * 12)).block, (ad.add (t * 12)).off + 2, none⟩ = some (.int .i64 0) := XA.out.c2
            have x3 : wr.cell? ⟨(ad.add (t * 12)).block, (ad.add (t * 12)).off + 3, none⟩ = some (.int .i64 y.id) := XA.out.c3
            have x4 : wr.cell? ⟨(ad.add (t * 12)).block, (ad.add (t * 12)).off + 4, none⟩ = some (.int .i64 y.rev) := XA.out.c4
            have x5 : wr.cell? ⟨(ad.add (t * 12)).block, (ad.add (t * 12)).off + 5, none⟩ = some (.int .i64 0) := XA.out.c5
            have x6 : wr.cell? ⟨(ad.add (t * 12)).block, (ad.add (t * 12)).off + 6, none⟩ = some (.int .i64 0) := XA.out.c6
            have x7 : wr.cell? ⟨(ad.add (t * 12)).block, (ad.add (t * 12)).off + 7, none⟩ = some (.bool false) := XA.out.c7
            have x8 : wr.cell? ⟨(ad.add (t * 12)).block, (ad.add (t * 12)).off + 8, none⟩ = some (.slice none 0 0) := XA.out.c8
            have x9 : wr.cell? ⟨(ad.add (t * 12)).block, (ad.add (t * 12)).off + 9, none⟩ = some (.slice none 0 0) := XA.out.c9
            have x10 : wr.cell? ⟨(ad.add (t * 12)).block, (ad.add (t * 12)).off + 10, none⟩ = some (.slice none 0 0) := XA.out.c10
            have x11 : wr.cell? ⟨(ad.add (t * 12)).block, (ad.add (t * 12)).off + 11, none⟩ = some (.slice none 0 0) := XA.out.c11
            clear hx hy XC XA
            have hmem : y ∈ opend (oopen ms') := by rw [← OPL.out]; exact List.mem_of_getElem? HY.out
            have hi := (List.mem_filter.1 hmem).1
            have c1 := closed_pend (oopen_ok ms') hmem
            rw [CL'.out] at c1
            have c2 := orev_mem (oopen_ok ms') hi
            have c3 := (oopen_ok ms').pos y hi
            have RY := Aside0.mk (show i64r y.id from (OM'.out.iss y hi).2.1)
            have KZ := Aside0.mk (keyOf_int_mk (P := Try.prog) Try.underlying2 (WalkArith.wf_i64 (by have h := RY.out; unfold i64r at h; omega) : (Lit.int .i64 y.id).wf = true))
            have ML := Aside0.mk (show g' (.int .i64 y.id) = some (.int .i64 y.rev) by rw [MI'.out y.id, c2, if_neg (by omega)])
            have d5 : decide (y.rev ≤ cl') = false := decide_eq_false (by omega)
            clear hmem hi c1 c2 c3 MS HY
            go_wp2_with (refine Hw.store_row rfl 27 (.tmp 17) (.tmp 147) rfl wr.heap.size #[.int .i64 1, .int .i64 y.src, .int .i64 0, .int .i64 y.id, .int .i64 y.rev, .int .i64 0, .int .i64 0, .bool false, .slice none 0 0, .slice none 0 0, .slice none 0 0, .slice none 0 0] rfl rfl HX.out (by kernel_rfl) (by rfl) (by first | kernel_rfl | rfl | simp [Value.oneCell']) ?_; intro w8 H8; have z4 := H8.out.cellAt wr.heap.size 4 (v := .int .i64 y.rev) rfl; have z3 := H8.out.cellAt wr.heap.size 3 (v := .int .i64 y.id) rfl; have HL := map_look ((H8.out.as (Q := mapHP Try.prog 2 mb g' k' * (blk wr.heap.size (.cells #[.int .i64 1, .int .i64 y.src, .int .i64 0, .int .i64 y.id, .int .i64 y.rev, .int .i64 0, .int .i64 0, .bool false, .slice none 0 0, .slice none 0 0, .slice none 0 0, .slice none 0 0] 27) * (crow 12 27 (some ad) nl cP (issCells l) * (blk b (.cells #[.int .i64 kind, .int .i64 src, .int .i64 id, .int .i64 m.kind, .int .i64 m.src, .int .i64 m.dst, .int .i64 m.id, .int .i64 m.rev, .int .i64 m.epoch, .int .i64 m.slot, .bool m.flag, .slice A1 n1 c1, .slice A2 n2 c2, .slice A3 n3 c3, .slice A4 n4 c4] 80) * G)))) (by ac_rfl))) (int_keyed Try.underlying2) Try.underlying93 (Try.zeroValue2 _) KZ.out; rw [ML.out] at HL; simp only [Option.getD_some] at HL)
            have H9 := Aside0.mk (BK.out _ _ H8.out.right)
            clear H8 HX BK HL z3 z4 d5
            go_roundw
            case rel => exact ⟨t + 1, by omega, by go_num, H9⟩
            case measure => simp [intOf]; omega
          · have htn : t = nl := by omega
            have H9 := Aside0.mk (((HI.out.as (HP.comm _ _)).drop.as (HP.comm _ _)).drop)
            clear HI
            go_wp2_with fail
            go_roundw
            case rel => exact ⟨j + 1, o, ms', g', k', la', cl', by omega, by omega, by go_num, rfl, rfl, rfl, OM', OL', MI', LA', CL', H9⟩
            case measure => simp [intOf]; omega
    · have hjn : j = n := by omega
      subst hjn
      go_wp2_with fail
      go_ret
      exact ⟨rfl, HW.out.below⟩
set_option maxHeartbeats 3200000 in
theorem oracleRises_bad (A : Option Addr) (n c : Nat) (room : Int) (w : World) (hr : room < 0 ∨ 1048576 < room) :
    Calls Try.prog 6 #[.slice A n c, .int .i64 room] w fun e w' => e = .returned (.bool true) ∧ Below w.heap.size w w' := by
  go_enter Try.func6, Try.ntmps6
  go_wp2_with fail
  refine (oawake_ok w).mono ?_
  rintro e w1 ⟨rfl, h1⟩
  have H1 := Aside0.mk ((Hw.start w).from_below h1)
  clear h1
  go_wp2_with fail
  refine (new_bad room hr).mono ?_
  rintro e w2 ⟨rfl, rfl⟩
  go_wp2_with fail
  refine (refWrong_bad room _ hr).mono ?_
  rintro e w3 ⟨rfl, hd⟩
  have H3 := Aside0.mk (H1.out.drawn hd)
  clear hd H1
  go_wp2_with fail
  go_ret
  exact ⟨rfl, H3.out.below⟩
theorem oracleRises_walk (A : Option Addr) (ca : Nat) (ys : List TP) (room : Int) (w : World) (hA : KOp14.C w A ys.length ys) (hca : ys.length ≤ ca)
    (sa : ys.length * 184 ≤ 140737488351232 ∧ ∀ y ∈ ys, sP0 y) (_ : (Lit.int .i64 room).wf = true) :
    Calls Try.prog 6 #[.slice A ys.length ca, .int .i64 room] w fun e w' => e = .returned (.bool true) ∧ Below w.heap.size w w' := by
  by_cases h : room < 0 ∨ 1048576 < room
  · exact oracleRises_bad A _ ca room w h
  · exact oracleRises_ok A _ ca ys room w hA sa.2 (by omega) (by omega) (by have := sa.1; omega)
end Go.Proofs.Ytckdkbjobipniaa
