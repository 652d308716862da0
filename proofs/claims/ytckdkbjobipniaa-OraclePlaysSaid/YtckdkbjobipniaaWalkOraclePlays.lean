/- OraclePlays' walk. Printed by wip/gen/oraclep.py. -/
import Derived.Test.YtckdkbjobipniaaOrcM
import Derived.Test.YtckdkbjobipniaaRefDisk
import Derived.Deep.DeepCutAuto
import Derived.Deep.CutBlock
set_option linter.unusedVariables false
set_option linter.unusedSimpArgs false
namespace Go.Proofs.Ytckdkbjobipniaa
open Go.RowKit Go.Proofs.YtckdkbjobipniaaW.PrintWords Go.Proofs.YtckdkbjobipniaaW.PrintLast
theorem tl2 {w0 w : World} {B D5 L D X O : HP} (h : Hw w0 w (B * (D5 * (L * (D * (X * O)))))) : Hw w0 w (D * (B * (X * O))) := (h.as (Q := D * (B * (X * O)) * (D5 * L)) (by ac_rfl)).left
theorem tl1 {w0 w : World} {N12 N1 D5 C5 M5 B X O G2 : HP} (h : Hw w0 w ((N12 * (N1 * HP.emp)) * (D5 * ((C5 * (M5 * HP.emp)) * (B * ((X * O) * G2)))))) : Hw w0 w (B * (X * (N12 * (N1 * G2)))) := by
  simp only [HP.mul_emp] at h
  exact (h.as (Q := B * (X * (N12 * (N1 * G2))) * (D5 * (C5 * (M5 * O)))) (by ac_rfl)).left
theorem add_fieldQ (ad : Addr) (k i : Nat) (hi : i ≠ 0) : ad.add (k + i) = ⟨(ad.add k).block, (ad.add k).off + i, none⟩ := by
  unfold Addr.add
  by_cases hk : k = 0
  · subst hk; simp [hi]
  · simp [hk, hi]; omega
set_option maxHeartbeats 12800000 in
set_option maxRecDepth 100000 in
theorem oraclePlays_ok (A0 : Option Addr) (nn cc : Nat) (ys : List TP) (room : Int) (w : World) (hA : KOp14.C w A0 nn ys) (hS : ∀ y ∈ ys, sP0 y) (h0 : 0 ≤ room) (h1 : room ≤ 1048576) :
    Calls Try.prog 5 #[.int .i64 room, .slice A0 nn cc] w fun e w' => e = .returned (.bool true) ∧ Below w.heap.size w w' := by
  have HA := Aside0.mk hA
  have HS := Aside0.mk hS
  have hm := hA.2.1
  have R0 := Aside0.mk h0
  have R1 := Aside0.mk h1
  clear hA hS h0 h1
  go_enter Try.func5, Try.ntmps5
  go_wp2_with fail
  refine (oawake_ok w).mono ?_
  rintro e w1 ⟨rfl, g1⟩
  have H1 := Aside0.mk ((Hw.start w).from_below g1)
  clear g1
  go_wp2_with fail
  refine (new_ok room R0.out R1.out H1.out).mono ?_
  rintro e w2 ⟨p, rfl, g2⟩
  have H2 := Aside0.mk g2
  clear g2 H1
  go_wp2_with fail
  refine (oopened_run (ms := []) H2.out (OrcMs.nil R0.out R1.out)).mono ?_
  rintro e w3 ⟨o, rfl, g3⟩
  have H3 := Aside0.mk g3
  clear g3 H2
  go_wp2_with fail
  refine (r14open_ok ⟨#[]⟩ 0 room none 0 0 [] w3 MsgsC.nil (by decide)).mono ?_
  rintro e w4 ⟨A, n, c, B, m, d, rfl, q1, q2, q3⟩
  have Q1 := Aside0.mk q1
  have Q2 := Aside0.mk q2
  obtain ⟨G, HG, back⟩ := orcOn_open (H3.out.trans q3)
  have BK := Aside0.mk back
  have HX := Aside0.mk (HG.alloc (.cells #[.string ⟨#[]⟩, .int .i64 0, .int .i64 0, .slice none 0 0, .slice none 0 0] 77))
  clear q1 q2 q3 HG back H3
  go_wp2_with (refine Hw.store_row rfl 77 (.tmp 8) (.tmp 40) rfl w4.heap.size #[.string ⟨#[]⟩, .int .i64 0, .int .i64 room, .slice A n c, .slice B m d] rfl rfl HX.out (by kernel_rfl) (by rfl) (by first | kernel_rfl | rfl | simp [Value.oneCell']) ?_; intro w5 HZ; skip)
  obtain ⟨b8, hb8⟩ : ∃ b, b = w4.heap.size := ⟨_, rfl⟩
  rw [← hb8] at HZ
  rw [← hb8]
  have H5 := Aside0.mk (BK.out w5 (HP.emp * (blk b8 (.cells #[.string ⟨#[]⟩, .int .i64 0, .int .i64 room, .slice A n c, .slice B m d] 77) * (crow 12 27 A n c (issCells (oopen []).iss) * crow 1 2 B m d ((oopen []).done.flatMap intC)))) (HZ.out.as (by show _ * (((crow 12 27 A n c (issCells (oopen []).iss) * (crow 1 2 B m d ((oopen []).done.flatMap intC) * HP.emp)) * HP.emp) * G) = _; simp only [HP.mul_emp]; rw [HP.comm HP.emp, HP.mul_emp]; ac_rfl)))
  clear HZ hb8 HX BK
  go_loopw [43, 7] (fun i o7 wr => ∃ (j o : Nat) (ms : List Msg) (t : ByteArray) (dur : Int) (A : Option Addr) (n c : Nat) (B : Option Addr) (m d : Nat), j ≤ nn ∧ i = .int .i64 j ∧ o7 = .pointer (some ⟨o, 0, none⟩) ∧ Aside0 (OrcMs ms room) ∧ Aside0 (t = strOfNums (logB ms)) ∧ Aside0 (dur = ((logB ms).length : Int)) ∧ Aside0 (n = (oopen ms).iss.length) ∧ Aside0 (m = (oopen ms).done.length) ∧ Aside0 (OrcOn w wr (HP.emp * (blk b8 (.cells #[.string t, .int .i64 dur, .int .i64 room, .slice A n c, .slice B m d] 77) * (crow 12 27 A n c (issCells (oopen ms).iss) * crow 1 2 B m d ((oopen ms).done.flatMap intC)))) o p ms room))
    (fun i _ _ => nn - (intOf i).toNat)
  case atStart => exact ⟨0, o, [], ⟨#[]⟩, 0, A, n, c, B, m, d, Nat.zero_le _, rfl, rfl, ⟨OrcMs.nil R0.out R1.out⟩, ⟨rfl⟩, ⟨rfl⟩, Q1, Q2, H5⟩
  case round =>
    obtain ⟨j, o, ms, t, dur, A, n, c, B, m, d, hj, rfl, rfl, OM, TT, DD, NN, MM, HW⟩ := hrel
    clear H5
    by_cases hlt : j < nn
    · obtain ⟨ad, ⟨kind, src, id, ⟨mm, ⟨A1, n1, c1⟩, ⟨A2, n2, c2⟩, ⟨A3, n3, c3⟩, ⟨A4, n4, c4⟩⟩⟩, rfl, OK, SZ, hcl⟩ := op14_at2 HA.out HS.out j hlt
      have WB := HW.out.below
      have k0 : wr.cell? (ad.add (j * 15)) = some (.int .i64 kind) := pw_cell_below WB (hcl 0 _ rfl)
      have k1 : wr.cell? ⟨(ad.add (j * 15)).block, (ad.add (j * 15)).off + 1, none⟩ = some (.int .i64 src) := by
        have h := hcl 1 _ rfl
        rw [add_fieldQ _ _ _ (by decide)] at h
        exact pw_cell_below WB h
      have k2 : wr.cell? ⟨(ad.add (j * 15)).block, (ad.add (j * 15)).off + 2, none⟩ = some (.int .i64 id) := by
        have h := hcl 2 _ rfl
        rw [add_fieldQ _ _ _ (by decide)] at h
        exact pw_cell_below WB h
      have k3 : wr.cell? ⟨(ad.add (j * 15)).block, (ad.add (j * 15)).off + 3, none⟩ = some (.int .i64 mm.kind) := by
        have h := hcl 3 _ rfl
        rw [add_fieldQ _ _ _ (by decide)] at h
        exact pw_cell_below WB h
      have k4 : wr.cell? ⟨(ad.add (j * 15)).block, (ad.add (j * 15)).off + 4, none⟩ = some (.int .i64 mm.src) := by
        have h := hcl 4 _ rfl
        rw [add_fieldQ _ _ _ (by decide)] at h
        exact pw_cell_below WB h
      have k5 : wr.cell? ⟨(ad.add (j * 15)).block, (ad.add (j * 15)).off + 5, none⟩ = some (.int .i64 mm.dst) := by
        have h := hcl 5 _ rfl
        rw [add_fieldQ _ _ _ (by decide)] at h
        exact pw_cell_below WB h
      have k6 : wr.cell? ⟨(ad.add (j * 15)).block, (ad.add (j * 15)).off + 6, none⟩ = some (.int .i64 mm.id) := by
        have h := hcl 6 _ rfl
        rw [add_fieldQ _ _ _ (by decide)] at h
        exact pw_cell_below WB h
      have k7 : wr.cell? ⟨(ad.add (j * 15)).block, (ad.add (j * 15)).off + 7, none⟩ = some (.int .i64 mm.rev) := by
        have h := hcl 7 _ rfl
        rw [add_fieldQ _ _ _ (by decide)] at h
        exact pw_cell_below WB h
      have k8 : wr.cell? ⟨(ad.add (j * 15)).block, (ad.add (j * 15)).off + 8, none⟩ = some (.int .i64 mm.epoch) := by
        have h := hcl 8 _ rfl
        rw [add_fieldQ _ _ _ (by decide)] at h
        exact pw_cell_below WB h
      have k9 : wr.cell? ⟨(ad.add (j * 15)).block, (ad.add (j * 15)).off + 9, none⟩ = some (.int .i64 mm.slot) := by
        have h := hcl 9 _ rfl
        rw [add_fieldQ _ _ _ (by decide)] at h
        exact pw_cell_below WB h
      have k10 : wr.cell? ⟨(ad.add (j * 15)).block, (ad.add (j * 15)).off + 10, none⟩ = some (.bool mm.flag) := by
        have h := hcl 10 _ rfl
        rw [add_fieldQ _ _ _ (by decide)] at h
        exact pw_cell_below WB h
      have k11 : wr.cell? ⟨(ad.add (j * 15)).block, (ad.add (j * 15)).off + 11, none⟩ = some (.slice A1 n1 c1) := by
        have h := hcl 11 _ rfl
        rw [add_fieldQ _ _ _ (by decide)] at h
        exact pw_cell_below WB h
      have k12 : wr.cell? ⟨(ad.add (j * 15)).block, (ad.add (j * 15)).off + 12, none⟩ = some (.slice A2 n2 c2) := by
        have h := hcl 12 _ rfl
        rw [add_fieldQ _ _ _ (by decide)] at h
        exact pw_cell_below WB h
      have k13 : wr.cell? ⟨(ad.add (j * 15)).block, (ad.add (j * 15)).off + 13, none⟩ = some (.slice A3 n3 c3) := by
        have h := hcl 13 _ rfl
        rw [add_fieldQ _ _ _ (by decide)] at h
        exact pw_cell_below WB h
      have k14 : wr.cell? ⟨(ad.add (j * 15)).block, (ad.add (j * 15)).off + 14, none⟩ = some (.slice A4 n4 c4) := by
        have h := hcl 14 _ rfl
        rw [add_fieldQ _ _ _ (by decide)] at h
        exact pw_cell_below WB h
      clear hcl WB
      obtain ⟨b, hb⟩ : ∃ b, wr.heap.size = b := ⟨_, rfl⟩
      obtain ⟨G, HG, back⟩ := orcOn_open HW.out
      have BK := Aside0.mk back
      have HX := Aside0.mk (HG.alloc (.cells #[.int .i64 0, .int .i64 0, .int .i64 0, .int .i64 0, .int .i64 0, .int .i64 0, .int .i64 0, .int .i64 0, .int .i64 0, .int .i64 0, .bool false, .slice none 0 0, .slice none 0 0, .slice none 0 0, .slice none 0 0] 80))
      have lt8 := (HG.as (by rw [HP.comm HP.emp, HP.mul_emp]; ac_rfl : _ = blk b8 (.cells #[.string t, .int .i64 dur, .int .i64 room, .slice A n c, .slice B m d] 77) * (crow 12 27 A n c (issCells (oopen ms).iss) * (crow 1 2 B m d ((oopen ms).done.flatMap intC) * G)))).ltB b8
      rw [hb] at HX lt8
      have n8b : ¬ b8 = b := by omega
      have nb8 : ¬ b = b8 := by omega
      clear HG back lt8
      go_upto_block 2 with (refine Hw.store_row rfl 80 (.tmp 10) (.tmp 46) rfl b #[.int .i64 kind, .int .i64 src, .int .i64 id, .int .i64 mm.kind, .int .i64 mm.src, .int .i64 mm.dst, .int .i64 mm.id, .int .i64 mm.rev, .int .i64 mm.epoch, .int .i64 mm.slot, .bool mm.flag, .slice A1 n1 c1, .slice A2 n2 c2, .slice A3 n3 c3, .slice A4 n4 c4] (by simp [hb, go_sem]) rfl HX.out (by kernel_rfl) (by rfl) (by first | kernel_rfl | rfl | simp [Value.oneCell']) ?_; intro wa HB; have o0 := HB.out.cellAt b 0 (v := .int .i64 kind) rfl)
      have H0 := Aside0.mk (BK.out _ (blk b (.cells #[.int .i64 kind, .int .i64 src, .int .i64 id, .int .i64 mm.kind, .int .i64 mm.src, .int .i64 mm.dst, .int .i64 mm.id, .int .i64 mm.rev, .int .i64 mm.epoch, .int .i64 mm.slot, .bool mm.flag, .slice A1 n1 c1, .slice A2 n2 c2, .slice A3 n3 c3, .slice A4 n4 c4] 80) * (blk b8 (.cells #[.string t, .int .i64 dur, .int .i64 room, .slice A n c, .slice B m d] 77) * (crow 12 27 A n c (issCells (oopen ms).iss) * crow 1 2 B m d ((oopen ms).done.flatMap intC)))) (HB.out.as (by rw [HP.comm HP.emp, HP.mul_emp]; ac_rfl)))
      clear HX HW k0 k1 k2 k3 k4 k5 k6 k7 k8 k9 k10 k11 k12 k13 k14 hb HB BK
      have SR := Aside0.mk (show i64r src from OK.out.src)
      have IR := Aside0.mk (show i64r id from OK.out.id)
      have MC := Aside0.mk (show MsgC w mm (A1, n1, c1) (A2, n2, c2) (A3, n3, c3) (A4, n4, c4) from OK.out.c)
      have MO := Aside0.mk (show MsgOk mm from OK.out.ok)
      have MZ := Aside0.mk (show MsgSz mm from SZ.out)
      clear OK SZ
      go_cut [7] (fun o7 wr => ∃ (o : Nat) (ms : List Msg) (t : ByteArray) (dur : Int) (A : Option Addr) (n c : Nat) (B : Option Addr) (m d : Nat), o7 = .pointer (some ⟨o, 0, none⟩) ∧ Aside0 (OrcMs ms room) ∧ Aside0 (t = strOfNums (logB ms)) ∧ Aside0 (dur = ((logB ms).length : Int)) ∧ Aside0 (n = (oopen ms).iss.length) ∧ Aside0 (m = (oopen ms).done.length) ∧ Aside0 (OrcOn w wr (blk b (.cells #[.int .i64 kind, .int .i64 src, .int .i64 id, .int .i64 mm.kind, .int .i64 mm.src, .int .i64 mm.dst, .int .i64 mm.id, .int .i64 mm.rev, .int .i64 mm.epoch, .int .i64 mm.slot, .bool mm.flag, .slice A1 n1 c1, .slice A2 n2 c2, .slice A3 n3 c3, .slice A4 n4 c4] 80) * (blk b8 (.cells #[.string t, .int .i64 dur, .int .i64 room, .slice A n c, .slice B m d] 77) * (crow 12 27 A n c (issCells (oopen ms).iss) * crow 1 2 B m d ((oopen ms).done.flatMap intC)))) o p ms room))
      case first =>
        by_cases q0 : kind = 0
        · subst q0
          obtain ⟨G, HG, back⟩ := orcOn_open H0.out
          have BK := Aside0.mk back
          have HF := Aside0.mk (HG.as (by ac_rfl : _ = blk b (.cells #[.int .i64 0, .int .i64 src, .int .i64 id, .int .i64 mm.kind, .int .i64 mm.src, .int .i64 mm.dst, .int .i64 mm.id, .int .i64 mm.rev, .int .i64 mm.epoch, .int .i64 mm.slot, .bool mm.flag, .slice A1 n1 c1, .slice A2 n2 c2, .slice A3 n3 c3, .slice A4 n4 c4] 80) * (blk b8 (.cells #[.string t, .int .i64 dur, .int .i64 room, .slice A n c, .slice B m d] 77) * (crow 12 27 A n c (issCells (oopen ms).iss) * (crow 1 2 B m d ((oopen ms).done.flatMap intC) * G)))))
          clear HG back
          have o1 := HF.out.cellAt b 1 (v := .int .i64 src) rfl
          have o2 := HF.out.cellAt b 2 (v := .int .i64 id) rfl
          go_wp2_with fail
          clear o0 o1 o2 HF BK G
          refine (oissue_run id src H0.out OM.out IR.out SR.out).mono ?_
          rintro e w5 ⟨ms2, r, k, rfl, hA, g5⟩
          have H5 := Aside0.mk g5
          clear g5 H0
          obtain ⟨G, HG, back⟩ := orcOn_open H5.out
          have BK := Aside0.mk back
          have HF := Aside0.mk (HG.as (by ac_rfl : _ = blk b (.cells #[.int .i64 0, .int .i64 src, .int .i64 id, .int .i64 mm.kind, .int .i64 mm.src, .int .i64 mm.dst, .int .i64 mm.id, .int .i64 mm.rev, .int .i64 mm.epoch, .int .i64 mm.slot, .bool mm.flag, .slice A1 n1 c1, .slice A2 n2 c2, .slice A3 n3 c3, .slice A4 n4 c4] 80) * (blk b8 (.cells #[.string t, .int .i64 dur, .int .i64 room, .slice A n c, .slice B m d] 77) * (crow 12 27 A n c (issCells (oopen ms).iss) * (crow 1 2 B m d ((oopen ms).done.flatMap intC) * G)))))
          clear HG back
          have o1 := HF.out.cellAt b 1 (v := .int .i64 src) rfl
          have o2 := HF.out.cellAt b 2 (v := .int .i64 id) rfl
          have k0 := HF.out.cellAt b8 0 (v := .string t) rfl
          have k1 := HF.out.cellAt b8 1 (v := .int .i64 dur) rfl
          have k2 := HF.out.cellAt b8 2 (v := .int .i64 room) rfl
          have k3 := HF.out.cellAt b8 3 (v := .slice A n c) rfl
          have k4 := HF.out.cellAt b8 4 (v := .slice B m d) rfl
          go_wp2_with fail
          refine (r14ask_ok t dur room A n c B m d ms TT.out DD.out NN.out MM.out OM.out (HF.out.as (by ac_rfl : _ = crow 12 27 A n c (issCells (oopen ms).iss) * (crow 1 2 B m d ((oopen ms).done.flatMap intC) * (blk b (.cells #[.int .i64 0, .int .i64 src, .int .i64 id, .int .i64 mm.kind, .int .i64 mm.src, .int .i64 mm.dst, .int .i64 mm.id, .int .i64 mm.rev, .int .i64 mm.epoch, .int .i64 mm.slot, .bool mm.flag, .slice A1 n1 c1, .slice A2 n2 c2, .slice A3 n3 c3, .slice A4 n4 c4] 80) * (blk b8 (.cells #[.string t, .int .i64 dur, .int .i64 room, .slice A n c, .slice B m d] 77) * G))))) id src IR.out SR.out).mono ?_
          rintro e w6 ⟨v, ms3, r3, k3', rfl, hA3, t2, dur2, A2', n2', c2', B2, m2, d2, rfl, q1, q2, q3, q4, q5⟩
          obtain ⟨em, er, ek⟩ := ask_is hA3.out hA.out
          rw [em] at q1 q2 q3 q4 q5
          rw [er, ek]
          have Q1 := Aside0.mk q1
          have Q2 := Aside0.mk q2
          have Q3 := Aside0.mk q3
          have Q4 := Aside0.mk q4
          have OM2 := Aside0.mk (ask_ms hA.out OM.out IR.out SR.out)
          have HX := Aside0.mk (q5.alloc (.cells #[.string ⟨#[]⟩, .int .i64 0, .int .i64 0, .slice none 0 0, .slice none 0 0] 77))
          have lt8 := q5.ltB b8
          clear q1 q2 q3 q4 q5 em er ek hA hA3 HF H5 k0 k1 k2 k3 k4 o1 o2
          go_wp2_with (first | (refine Hw.store_row rfl 77 (.tmp 13) (.tmp 67) rfl w6.heap.size #[.string t2, .int .i64 dur2, .int .i64 room, .slice A2' n2' c2', .slice B2 m2 d2] rfl rfl HX.out (by kernel_rfl) (by rfl) (by first | kernel_rfl | rfl | simp [Value.oneCell']) ?_; intro w7 HZ; have z0 := HZ.out.cellAt w6.heap.size 0 (v := .string t2) rfl; have z1 := HZ.out.cellAt w6.heap.size 1 (v := .int .i64 dur2) rfl; have z2 := HZ.out.cellAt w6.heap.size 2 (v := .int .i64 room) rfl; have z3 := HZ.out.cellAt w6.heap.size 3 (v := .slice A2' n2' c2') rfl; have z4 := HZ.out.cellAt w6.heap.size 4 (v := .slice B2 m2 d2) rfl; have HB := Aside0.mk (HZ.out.atB b8)) | (refine Hw.store_row rfl 77 (.tmp 8) (.tmp 70) rfl b8 #[.string t2, .int .i64 dur2, .int .i64 room, .slice A2' n2' c2', .slice B2 m2 d2] rfl rfl HB.out (by kernel_rfl) (by rfl) (by first | kernel_rfl | rfl | simp [Value.oneCell']) ?_; intro w8 HZ; have H8 := Aside0.mk (HZ.out.dropB w6.heap.size)))
          have H9 := Aside0.mk (BK.out w8 (blk b (.cells #[.int .i64 0, .int .i64 src, .int .i64 id, .int .i64 mm.kind, .int .i64 mm.src, .int .i64 mm.dst, .int .i64 mm.id, .int .i64 mm.rev, .int .i64 mm.epoch, .int .i64 mm.slot, .bool mm.flag, .slice A1 n1 c1, .slice A2 n2 c2, .slice A3 n3 c3, .slice A4 n4 c4] 80) * (blk b8 (.cells #[.string t2, .int .i64 dur2, .int .i64 room, .slice A2' n2' c2', .slice B2 m2 d2] 77) * (crow 12 27 A2' n2' c2' (issCells (oopen ms2).iss) * crow 1 2 B2 m2 d2 ((oopen ms2).done.flatMap intC)))) (H8.out.as (by ac_rfl)))
          go_meet
          exact ⟨o, ms2, t2, dur2, A2', n2', c2', B2, m2, d2, rfl, OM2, Q1, Q2, Q3, Q4, H9⟩
        · by_cases q1 : kind = 1
          · subst q1
            obtain ⟨G, HG, back⟩ := orcOn_open H0.out
            have BK := Aside0.mk back
            have HF := Aside0.mk (HG.as (by ac_rfl : _ = blk b (.cells #[.int .i64 1, .int .i64 src, .int .i64 id, .int .i64 mm.kind, .int .i64 mm.src, .int .i64 mm.dst, .int .i64 mm.id, .int .i64 mm.rev, .int .i64 mm.epoch, .int .i64 mm.slot, .bool mm.flag, .slice A1 n1 c1, .slice A2 n2 c2, .slice A3 n3 c3, .slice A4 n4 c4] 80) * (blk b8 (.cells #[.string t, .int .i64 dur, .int .i64 room, .slice A n c, .slice B m d] 77) * (crow 12 27 A n c (issCells (oopen ms).iss) * (crow 1 2 B m d ((oopen ms).done.flatMap intC) * G)))))
            clear HG back
            have o2 := HF.out.cellAt b 2 (v := .int .i64 id) rfl
            have k0 := HF.out.cellAt b8 0 (v := .string t) rfl
            have k1 := HF.out.cellAt b8 1 (v := .int .i64 dur) rfl
            have k2 := HF.out.cellAt b8 2 (v := .int .i64 room) rfl
            have k3 := HF.out.cellAt b8 3 (v := .slice A n c) rfl
            have k4 := HF.out.cellAt b8 4 (v := .slice B m d) rfl
            go_wp2_with fail
            refine (r14settle_ok t dur room A n c B m d ms TT.out DD.out NN.out MM.out OM.out (HF.out.as (by ac_rfl : _ = crow 12 27 A n c (issCells (oopen ms).iss) * (crow 1 2 B m d ((oopen ms).done.flatMap intC) * (blk b (.cells #[.int .i64 1, .int .i64 src, .int .i64 id, .int .i64 mm.kind, .int .i64 mm.src, .int .i64 mm.dst, .int .i64 mm.id, .int .i64 mm.rev, .int .i64 mm.epoch, .int .i64 mm.slot, .bool mm.flag, .slice A1 n1 c1, .slice A2 n2 c2, .slice A3 n3 c3, .slice A4 n4 c4] 80) * (blk b8 (.cells #[.string t, .int .i64 dur, .int .i64 room, .slice A n c, .slice B m d] 77) * G))))) id IR.out).mono ?_
            rintro e w6 ⟨v, ms2, k3', rfl, hA3, t2, dur2, A2', n2', c2', B2, m2, d2, rfl, q1, q2, q3, q4, q5⟩
            have Q1 := Aside0.mk q1
            have Q2 := Aside0.mk q2
            have Q3 := Aside0.mk q3
            have Q4 := Aside0.mk q4
            have OM2 := Aside0.mk (settle_ms hA3.out OM.out IR.out)
            have HX := Aside0.mk (q5.alloc (.cells #[.string ⟨#[]⟩, .int .i64 0, .int .i64 0, .slice none 0 0, .slice none 0 0] 77))
            have lt8 := q5.ltB b8
            have ltb := q5.ltB b
            clear q1 q2 q3 q4 q5 HF k0 k1 k2 k3 k4 o2 o0
            go_wp2_with (first | (refine Hw.store_row rfl 77 (.tmp 16) (.tmp 86) rfl w6.heap.size #[.string t2, .int .i64 dur2, .int .i64 room, .slice A2' n2' c2', .slice B2 m2 d2] rfl rfl HX.out (by kernel_rfl) (by rfl) (by first | kernel_rfl | rfl | simp [Value.oneCell']) ?_; intro w7 HZ; have z0 := HZ.out.cellAt w6.heap.size 0 (v := .string t2) rfl; have z1 := HZ.out.cellAt w6.heap.size 1 (v := .int .i64 dur2) rfl; have z2 := HZ.out.cellAt w6.heap.size 2 (v := .int .i64 room) rfl; have z3 := HZ.out.cellAt w6.heap.size 3 (v := .slice A2' n2' c2') rfl; have z4 := HZ.out.cellAt w6.heap.size 4 (v := .slice B2 m2 d2) rfl; have HB := Aside0.mk (HZ.out.atB b8)) | (refine Hw.store_row rfl 77 (.tmp 8) (.tmp 88) rfl b8 #[.string t2, .int .i64 dur2, .int .i64 room, .slice A2' n2' c2', .slice B2 m2 d2] rfl rfl HB.out (by kernel_rfl) (by rfl) (by first | kernel_rfl | rfl | simp [Value.oneCell']) ?_; intro w8 HZ; have H8 := Aside0.mk (HZ.out.dropB w6.heap.size); have o2 := H8.out.cellAt b 2 (v := .int .i64 id) rfl))
            have H9 := Aside0.mk (BK.out w8 (blk b (.cells #[.int .i64 1, .int .i64 src, .int .i64 id, .int .i64 mm.kind, .int .i64 mm.src, .int .i64 mm.dst, .int .i64 mm.id, .int .i64 mm.rev, .int .i64 mm.epoch, .int .i64 mm.slot, .bool mm.flag, .slice A1 n1 c1, .slice A2 n2 c2, .slice A3 n3 c3, .slice A4 n4 c4] 80) * (blk b8 (.cells #[.string t2, .int .i64 dur2, .int .i64 room, .slice A2' n2' c2', .slice B2 m2 d2] 77) * (crow 12 27 A2' n2' c2' (issCells (oopen ms2).iss) * crow 1 2 B2 m2 d2 ((oopen ms2).done.flatMap intC)))) (H8.out.as (by ac_rfl)))
            clear H8 HX HB H0 BK lt8 ltb
            refine (oresolve_run id H9.out OM.out IR.out).mono ?_
            rintro e w9 ⟨ms4, k4, rfl, hA4, g9⟩
            obtain ⟨em, ek⟩ := settle_is hA4.out hA3.out
            rw [em] at g9
            have H10 := Aside0.mk g9
            rw [ek]
            clear g9 em ek H9 hA3 hA4 o2 z0 z1 z2 z3 z4 HZ
            go_wp2_with fail
            go_meet
            exact ⟨o, ms2, t2, dur2, A2', n2', c2', B2, m2, d2, rfl, OM2, Q1, Q2, Q3, Q4, H10⟩
          · by_cases q2 : kind = 2
            · subst q2
              obtain ⟨G, HG⟩ := orc_disk H0.out
              have H1 := Aside0.mk (HG.as (by ac_rfl : _ = disk p (logB ms) ((logB ms).length : Int) room * (blk b8 (.cells #[.string t, .int .i64 dur, .int .i64 room, .slice A n c, .slice B m d] 77) * (blk b (.cells #[.int .i64 2, .int .i64 src, .int .i64 id, .int .i64 mm.kind, .int .i64 mm.src, .int .i64 mm.dst, .int .i64 mm.id, .int .i64 mm.rev, .int .i64 mm.epoch, .int .i64 mm.slot, .bool mm.flag, .slice A1 n1 c1, .slice A2 n2 c2, .slice A3 n3 c3, .slice A4 n4 c4] 80) * (crow 12 27 A n c (issCells (oopen ms).iss) * (crow 1 2 B m d ((oopen ms).done.flatMap intC) * G))))))
              clear HG H0
              go_wp2_with fail
              refine (crash_all H1.out).mono ?_
              rintro e x1 ⟨rfl, h1⟩
              have K1 := Aside0.mk h1
              clear h1 H1
              go_wp2_with fail
              refine (oopened_run K1.out OM.out).mono ?_
              rintro e x2 ⟨o2, rfl, h2⟩
              obtain ⟨G2, HG2, back2⟩ := orcOn_open h2
              have BK2 := Aside0.mk back2
              have K2 := Aside0.mk (HG2.as (HP.assoc _ _ _))
              clear h2 HG2 back2 K1
              have k0 := K2.out.cellAt b8 0 (v := .string t) rfl
              have k1 := K2.out.cellAt b8 1 (v := .int .i64 dur) rfl
              have k2 := K2.out.cellAt b8 2 (v := .int .i64 room) rfl
              have k3 := K2.out.cellAt b8 3 (v := .slice A n c) rfl
              have k4 := K2.out.cellAt b8 4 (v := .slice B m d) rfl
              have LO := Aside0.mk (rlopen_ok (logB (ms)) dur room x2 (logB_isB _) (by have h1 := OM.out.len; have h2 := OM.out.r1; omega))
              rw [← TT.out] at LO
              go_wp2_with fail
              refine LO.out.mono ?_
              rintro e x3 ⟨A5, n5, c5, l5, rfl, e1, e2, e3, g3⟩
              rw [logRead_all (ms) OM.out.good] at e1 ⊢
              simp only at e1 ⊢
              rw [List.take_length, ← TT.out]
              have e5 : n5 ≤ 1000000 := by have e4 : n5 = (ms).length := (by rw [← e2, ← List.length_map (f := (·.m)), e1]); have := OM.out.cnt; omega
              have E1 := Aside0.mk e1
              obtain ⟨du2, hdu2⟩ : ∃ x : Int, x = ((logB (ms)).length : Nat) := ⟨_, rfl⟩
              rw [← hdu2]
              have DU2 := Aside0.mk hdu2
              have K3 := Aside0.mk (K2.out.trans g3)
              have HX := Aside0.mk (K3.out.alloc (.cells #[.string t, .int .i64 du2, .int .i64 room] 51))
              have lt8 := K2.out.ltB b8
              clear LO hdu2
              have MC5 := Aside0.mk (cut_msgs (g3.alloc (.cells #[.string t, .int .i64 du2, .int .i64 room] 51)).right e2 (by omega) e3)
              have OP := Aside0.mk (r14open_ok t du2 room A5 n5 c5 l5 _ MC5.out e5)
              clear g3 k0 k1 k2 k3 k4 e1 e2 e3 MC5
              go_wp2_with fail
              refine OP.out.mono ?_
              rintro e x4 ⟨A2', n2', c2', B2, m2, d2, rfl, f1, f2, f3⟩
              rw [E1.out] at f1 f2 f3
              have Q3 := Aside0.mk f1
              have Q4 := Aside0.mk f2
              have K4 := Aside0.mk (tl1 (HX.out.trans f3))
              clear f1 f2 f3 HX K3 K2 OP E1 lt8 e5
              go_wp2_with (refine Hw.store_row rfl 77 (.tmp 8) (.tmp 133) rfl b8 #[.string t, .int .i64 du2, .int .i64 room, .slice A2' n2' c2', .slice B2 m2 d2] rfl rfl K4.out (by kernel_rfl) (by rfl) (by first | kernel_rfl | rfl | simp [Value.oneCell']) ?_; intro x5 HZ; skip)
              have H9 := Aside0.mk (BK2.out x5 (blk b (.cells #[.int .i64 2, .int .i64 src, .int .i64 id, .int .i64 mm.kind, .int .i64 mm.src, .int .i64 mm.dst, .int .i64 mm.id, .int .i64 mm.rev, .int .i64 mm.epoch, .int .i64 mm.slot, .bool mm.flag, .slice A1 n1 c1, .slice A2 n2 c2, .slice A3 n3 c3, .slice A4 n4 c4] 80) * (blk b8 (.cells #[.string t, .int .i64 du2, .int .i64 room, .slice A2' n2' c2', .slice B2 m2 d2] 77) * (crow 12 27 A2' n2' c2' (issCells (oopen ms).iss) * crow 1 2 B2 m2 d2 ((oopen ms).done.flatMap intC)))) (HZ.out.as (by ac_rfl)))
              go_meet
              exact ⟨o2, ms, t, du2, A2', n2', c2', B2, m2, d2, rfl, OM, TT, DU2, Q3, Q4, H9⟩
            · by_cases q3 : kind = 3
              · subst q3
                obtain ⟨G, HG⟩ := orc_disk H0.out
                have H1 := Aside0.mk (HG.as (by ac_rfl : _ = disk p (logB ms) ((logB ms).length : Int) room * (blk b8 (.cells #[.string t, .int .i64 dur, .int .i64 room, .slice A n c, .slice B m d] 77) * (blk b (.cells #[.int .i64 3, .int .i64 src, .int .i64 id, .int .i64 mm.kind, .int .i64 mm.src, .int .i64 mm.dst, .int .i64 mm.id, .int .i64 mm.rev, .int .i64 mm.epoch, .int .i64 mm.slot, .bool mm.flag, .slice A1 n1 c1, .slice A2 n2 c2, .slice A3 n3 c3, .slice A4 n4 c4] 80) * (crow 12 27 A n c (issCells (oopen ms).iss) * (crow 1 2 B m d ((oopen ms).done.flatMap intC) * G))))))
                clear HG H0
                obtain ⟨W1, W2, W3⟩ := wr2_all OM.out MO.out
                have OM2 := Aside0.mk W1
                have LBM := Aside0.mk (show (logB ms).length ≤ 1048576 by have h1 := OM.out.len; have h2 := OM.out.r1; omega)
                go_wp2_with fail
                refine (lopen_logB ms OM.out.good LBM.out H1.out).mono ?_
                rintro e w5 ⟨q, Ao, no, co, lo, rfl, _, _, hno, _, hno2, h3⟩
                have H3 := Aside0.mk (((cut_move h3).drop (crow 12 27 Ao no co (lo.flatMap mhC))).drop (msgsP lo))
                clear h3 H1 hno o0
                have o3 := H3.out.cellAt b 3 (v := .int .i64 mm.kind) rfl
                have o4 := H3.out.cellAt b 4 (v := .int .i64 mm.src) rfl
                have o5 := H3.out.cellAt b 5 (v := .int .i64 mm.dst) rfl
                have o6 := H3.out.cellAt b 6 (v := .int .i64 mm.id) rfl
                have o7 := H3.out.cellAt b 7 (v := .int .i64 mm.rev) rfl
                have o8 := H3.out.cellAt b 8 (v := .int .i64 mm.epoch) rfl
                have o9 := H3.out.cellAt b 9 (v := .int .i64 mm.slot) rfl
                have o10 := H3.out.cellAt b 10 (v := .bool mm.flag) rfl
                have o11 := H3.out.cellAt b 11 (v := .slice A1 n1 c1) rfl
                have o12 := H3.out.cellAt b 12 (v := .slice A2 n2 c2) rfl
                have o13 := H3.out.cellAt b 13 (v := .slice A3 n3 c3) rfl
                have o14 := H3.out.cellAt b 14 (v := .slice A4 n4 c4) rfl
                have k0 := H3.out.cellAt b8 0 (v := .string t) rfl
                have k1 := H3.out.cellAt b8 1 (v := .int .i64 dur) rfl
                have k2 := H3.out.cellAt b8 2 (v := .int .i64 room) rfl
                have k3 := H3.out.cellAt b8 3 (v := .slice A n c) rfl
                have k4 := H3.out.cellAt b8 4 (v := .slice B m d) rfl
                go_wp2_with fail
                refine (lwrite_ok mm A1 A2 A3 A4 n1 n2 n3 n4 c1 c2 c3 c4 (MC.out.below H3.out.below) MO.out H3.out OM.out.r0 OM.out.r1 (by omega) (by omega)).mono ?_
                rintro e w6 ⟨rfl, h6⟩
                rw [W2, W3] at h6
                have H6 := Aside0.mk h6
                clear h6 H3 o3 o4 o5 o6 o7 o8 o9 o10 o11 o12 o13 o14 k0 k1 k2 k3 k4
                have o3 := H6.out.cellAt b 3 (v := .int .i64 mm.kind) rfl
                have o4 := H6.out.cellAt b 4 (v := .int .i64 mm.src) rfl
                have o5 := H6.out.cellAt b 5 (v := .int .i64 mm.dst) rfl
                have o6 := H6.out.cellAt b 6 (v := .int .i64 mm.id) rfl
                have o7 := H6.out.cellAt b 7 (v := .int .i64 mm.rev) rfl
                have o8 := H6.out.cellAt b 8 (v := .int .i64 mm.epoch) rfl
                have o9 := H6.out.cellAt b 9 (v := .int .i64 mm.slot) rfl
                have o10 := H6.out.cellAt b 10 (v := .bool mm.flag) rfl
                have o11 := H6.out.cellAt b 11 (v := .slice A1 n1 c1) rfl
                have o12 := H6.out.cellAt b 12 (v := .slice A2 n2 c2) rfl
                have o13 := H6.out.cellAt b 13 (v := .slice A3 n3 c3) rfl
                have o14 := H6.out.cellAt b 14 (v := .slice A4 n4 c4) rfl
                have k0 := H6.out.cellAt b8 0 (v := .string t) rfl
                have k1 := H6.out.cellAt b8 1 (v := .int .i64 dur) rfl
                have k2 := H6.out.cellAt b8 2 (v := .int .i64 room) rfl
                have k3 := H6.out.cellAt b8 3 (v := .slice A n c) rfl
                have k4 := H6.out.cellAt b8 4 (v := .slice B m d) rfl
                have RA := Aside0.mk (radd_ok mm A1 A2 A3 A4 n1 n2 n3 n4 c1 c2 c3 c4 (logB ms) dur room w6 (MC.out.below H6.out.below) MO.out MZ.out LBM.out OM.out.r1)
                rw [← TT.out] at RA
                go_wp2_with fail
                refine RA.out.mono ?_
                rintro e w7 ⟨rfl, hb7⟩
                have H7 := Aside0.mk (H6.out.from_below hb7)
                rw [W2]
                obtain ⟨t2, ht2⟩ : ∃ x, x = strOfNums (logB (wr2 ms mm room)) := ⟨_, rfl⟩
                rw [← ht2]
                have TT2 := Aside0.mk ht2
                have ZT := Aside0.mk (show t2.size = (logB (wr2 ms mm room)).length by rw [ht2, tx_size])
                clear hb7 H6 RA ht2 W1 W2 W3 o3 o4 o5 o6 o7 o8 o9 o10 o11 o12 o13 o14 k0 k1 k2 k3 k4
                have SY := Aside0.mk (fun W => refSync_ok t2 dur room W (by rw [ZT.out]; have h1 := OM2.out.len; have h2 := OM2.out.r1; omega))
                unfold refD at SY
                have HX := Aside0.mk (H7.out.alloc (.cells #[.string t2, .int .i64 dur, .int .i64 room] 51))
                have lt8 := H7.out.ltB b8
                go_wp2_with fail
                refine (SY.out _).mono ?_
                rintro e w8 ⟨rfl, hb8⟩
                have H8 := Aside0.mk (HX.out.from_below hb8)
                clear hb8 HX SY H7 lt8
                obtain ⟨dz, hdz⟩ : ∃ x : Int, x = (t2.size : Int) := ⟨_, rfl⟩
                rw [← hdz]
                have DZ := Aside0.mk (show dz = ((logB (wr2 ms mm room)).length : Int) by rw [hdz, ZT.out])
                clear hdz
                have k0 := H8.out.cellAt b8 0 (v := .string t) rfl
                have k1 := H8.out.cellAt b8 1 (v := .int .i64 dur) rfl
                have k2 := H8.out.cellAt b8 2 (v := .int .i64 room) rfl
                have k3 := H8.out.cellAt b8 3 (v := .slice A n c) rfl
                have k4 := H8.out.cellAt b8 4 (v := .slice B m d) rfl
                have f0 := H8.out.freeAt b8
                have H10 := Aside0.mk (((H8.out.setAt b8 0 (.string t2)).setAt b8 1 (.int .i64 dz)).setAt b8 2 (.int .i64 room))
                have H11 : Aside0 (Hw w _ (disk p (logB (wr2 ms mm room)) ((logB (wr2 ms mm room)).length : Int) room * (blk b8 (.cells #[.string t2, .int .i64 dz, .int .i64 room, .slice A n c, .slice B m d] 77) * (blk b (.cells #[.int .i64 3, .int .i64 src, .int .i64 id, .int .i64 mm.kind, .int .i64 mm.src, .int .i64 mm.dst, .int .i64 mm.id, .int .i64 mm.rev, .int .i64 mm.epoch, .int .i64 mm.slot, .bool mm.flag, .slice A1 n1 c1, .slice A2 n2 c2, .slice A3 n3 c3, .slice A4 n4 c4] 80) * (crow 12 27 A n c (issCells (oopen ms).iss) * (crow 1 2 B m d ((oopen ms).done.flatMap intC) * G)))))) := ⟨tl2 H10.out⟩
                clear H10 H8
                go_wp2_with fail
                refine (crash_all H11.out).mono ?_
                rintro e x1 ⟨rfl, h1⟩
                have K1 := Aside0.mk h1
                clear h1 H11
                go_wp2_with fail
                refine (oopened_run K1.out OM2.out).mono ?_
                rintro e x2 ⟨o2, rfl, h2⟩
                obtain ⟨G2, HG2, back2⟩ := orcOn_open h2
                have BK2 := Aside0.mk back2
                have K2 := Aside0.mk (HG2.as (HP.assoc _ _ _))
                clear h2 HG2 back2 K1
                have k0 := K2.out.cellAt b8 0 (v := .string t2) rfl
                have k1 := K2.out.cellAt b8 1 (v := .int .i64 dz) rfl
                have k2 := K2.out.cellAt b8 2 (v := .int .i64 room) rfl
                have k3 := K2.out.cellAt b8 3 (v := .slice A n c) rfl
                have k4 := K2.out.cellAt b8 4 (v := .slice B m d) rfl
                have LO := Aside0.mk (rlopen_ok (logB ((wr2 ms mm room))) dz room x2 (logB_isB _) (by have h1 := OM2.out.len; have h2 := OM2.out.r1; omega))
                rw [← TT2.out] at LO
                go_wp2_with fail
                refine LO.out.mono ?_
                rintro e x3 ⟨A5, n5, c5, l5, rfl, e1, e2, e3, g3⟩
                rw [logRead_all ((wr2 ms mm room)) OM2.out.good] at e1 ⊢
                simp only at e1 ⊢
                rw [List.take_length, ← TT2.out]
                have e5 : n5 ≤ 1000000 := by have e4 : n5 = ((wr2 ms mm room)).length := (by rw [← e2, ← List.length_map (f := (·.m)), e1]); have := OM2.out.cnt; omega
                have E1 := Aside0.mk e1
                obtain ⟨du2, hdu2⟩ : ∃ x : Int, x = ((logB ((wr2 ms mm room))).length : Nat) := ⟨_, rfl⟩
                rw [← hdu2]
                have DU2 := Aside0.mk hdu2
                have K3 := Aside0.mk (K2.out.trans g3)
                have HX := Aside0.mk (K3.out.alloc (.cells #[.string t2, .int .i64 du2, .int .i64 room] 51))
                have lt8 := K2.out.ltB b8
                clear LO hdu2
                have MC5 := Aside0.mk (cut_msgs (g3.alloc (.cells #[.string t2, .int .i64 du2, .int .i64 room] 51)).right e2 (by omega) e3)
                have OP := Aside0.mk (r14open_ok t2 du2 room A5 n5 c5 l5 _ MC5.out e5)
                clear g3 k0 k1 k2 k3 k4 e1 e2 e3 MC5
                go_wp2_with fail
                refine OP.out.mono ?_
                rintro e x4 ⟨A2', n2', c2', B2, m2, d2, rfl, f1, f2, f3⟩
                rw [E1.out] at f1 f2 f3
                have Q3 := Aside0.mk f1
                have Q4 := Aside0.mk f2
                have K4 := Aside0.mk (tl1 (HX.out.trans f3))
                clear f1 f2 f3 HX K3 K2 OP E1 lt8 e5
                go_wp2_with (refine Hw.store_row rfl 77 (.tmp 8) (.tmp 133) rfl b8 #[.string t2, .int .i64 du2, .int .i64 room, .slice A2' n2' c2', .slice B2 m2 d2] rfl rfl K4.out (by kernel_rfl) (by rfl) (by first | kernel_rfl | rfl | simp [Value.oneCell']) ?_; intro x5 HZ; skip)
                have H9 := Aside0.mk (BK2.out x5 (blk b (.cells #[.int .i64 3, .int .i64 src, .int .i64 id, .int .i64 mm.kind, .int .i64 mm.src, .int .i64 mm.dst, .int .i64 mm.id, .int .i64 mm.rev, .int .i64 mm.epoch, .int .i64 mm.slot, .bool mm.flag, .slice A1 n1 c1, .slice A2 n2 c2, .slice A3 n3 c3, .slice A4 n4 c4] 80) * (blk b8 (.cells #[.string t2, .int .i64 du2, .int .i64 room, .slice A2' n2' c2', .slice B2 m2 d2] 77) * (crow 12 27 A2' n2' c2' (issCells (oopen (wr2 ms mm room)).iss) * crow 1 2 B2 m2 d2 ((oopen (wr2 ms mm room)).done.flatMap intC)))) (HZ.out.as (by ac_rfl)))
                go_meet
                exact ⟨o2, (wr2 ms mm room), t2, du2, A2', n2', c2', B2, m2, d2, rfl, OM2, TT2, DU2, Q3, Q4, H9⟩
              · have e0 : (kind == 0) = false := by simpa using q0
                have e1 : (kind == 1) = false := by simpa using q1
                have e2 : (kind == 2) = false := by simpa using q2
                have e3 : (kind == 3) = false := by simpa using q3
                clear q0 q1 q2 q3
                go_wp2_with fail
                go_meet
                exact ⟨o, ms, t, dur, A, n, c, B, m, d, rfl, OM, TT, DD, NN, MM, H0⟩
      case rest =>
        obtain ⟨o, ms, t, dur, A, n, c, B, m, d, rfl, OM, TT, DD, NN, MM, HR⟩ := hcut
        clear H0 o0
        have HD := Aside0.mk HR.out.drew
        obtain ⟨G, HG, back⟩ := orcOn_open HD.out
        have HF := Aside0.mk (HG.as (by ac_rfl : _ = blk b (.cells #[.int .i64 kind, .int .i64 src, .int .i64 id, .int .i64 mm.kind, .int .i64 mm.src, .int .i64 mm.dst, .int .i64 mm.id, .int .i64 mm.rev, .int .i64 mm.epoch, .int .i64 mm.slot, .bool mm.flag, .slice A1 n1 c1, .slice A2 n2 c2, .slice A3 n3 c3, .slice A4 n4 c4] 80) * (blk b8 (.cells #[.string t, .int .i64 dur, .int .i64 room, .slice A n c, .slice B m d] 77) * (crow 12 27 A n c (issCells (oopen ms).iss) * (crow 1 2 B m d ((oopen ms).done.flatMap intC) * G)))))
        clear HG back HR
        obtain ⟨la, hla⟩ : ∃ v, olast (oopen ms) = v := ⟨_, rfl⟩
        obtain ⟨cl, hcl⟩ : ∃ v, oclosed (oopen ms) = v := ⟨_, rfl⟩
        obtain ⟨nl, hnl⟩ : ∃ v, (opend (oopen ms)).length = v := ⟨_, rfl⟩
        obtain ⟨sz, hsz⟩ : ∃ v, (logB ms).length = v := ⟨_, rfl⟩
        have EL := Aside0.mk hla
        have CL := Aside0.mk hcl
        have NL := Aside0.mk hnl
        have SZB := Aside0.mk hsz
        have SZL : sz ≤ 1048576 := by have h1 := OM.out.len; have h2 := OM.out.r1; omega
        have NLE : nl ≤ 1000000 := by have h1 := opend_len (oopen ms); have h2 := oopen_len ms; have h3 := OM.out.cnt; omega
        have NB : n ≤ 1000000 := by have h1 := NN.out; have h2 := oopen_len ms; have h3 := OM.out.cnt; omega
        have MB : m ≤ 1000000 := by have h1 := MM.out; have h2 := done_len ms; have h3 := OM.out.cnt; omega
        have RG := Aside0.mk (show ∀ x ∈ (oopen ms).iss, -9223372036854775807 ≤ x.rev ∧ x.rev ≤ 9223372036854775807 from fun x hx => by have h1 := (OM.out.iss x hx).2.2; have h2 := (oopen_ok ms).pos x hx; unfold i64r at h1; omega)
        have ts := Aside0.mk (show t.size ≤ 1048576 by rw [TT.out, tx_size]; omega)
        clear hla hcl hnl hsz
        have ka0 := HF.out.cellAt b8 0 (v := .string t) rfl
        have ka1 := HF.out.cellAt b8 1 (v := .int .i64 dur) rfl
        have ka2 := HF.out.cellAt b8 2 (v := .int .i64 room) rfl
        have ka3 := HF.out.cellAt b8 3 (v := .slice A n c) rfl
        have ka4 := HF.out.cellAt b8 4 (v := .slice B m d) rfl
        have LA1 := Aside0.mk (ref_iss (HF.out.at (crow 12 27 A n c (issCells (oopen ms).iss))) NN.out NB)
        have LB1 := Aside0.mk (ref_done (HF.out.at (crow 1 2 B m d ((oopen ms).done.flatMap intC))) MM.out MB)
        go_upto_region 34 with fail
        refine start_ (n := 35) (S := fun w' => w'.cell? ⟨b8, 0, none⟩ = some (.string t) ∧ w'.cell? ⟨b8, 1, none⟩ = some (.int .i64 dur) ∧ w'.cell? ⟨b8, 2, none⟩ = some (.int .i64 room) ∧ w'.cell? ⟨b8, 3, none⟩ = some (.slice A n c) ∧ w'.cell? ⟨b8, 4, none⟩ = some (.slice B m d)) (ds := []) #[false, false, false, false, false, false, false, false, false, false, false, false, false, false, false, false, false, false, false, false, false, false, false, false, false, false, false, false, false, false, false, false, false, false, false] (by kernel_rfl) rfl rfl ⟨ka0, ka1, ka2, ka3, ka4⟩ (fun hHeld => ?_)
        refine pure_ (i := 0) (N := some 134) (v := ?_) (a' := ?_) #[true, false, false, false, false, false, false, false, false, false, false, false, false, false, false, false, false, false, false, false, false, false, false, false, false, false, false, false, false, false, false, false, false, false, false] rfl rfl (by kernel_rfl) (fun _ _ _ h => h) (Or.inl ⟨by rfl, ?_⟩) ?_ ?_
        rotate_left
        · intro w'
          go_simp
          with_reducible rfl
        rotate_left
        · simp only [Act.put, List.setIfInBounds_toArray, List.set_cons_zero, List.set_cons_succ, i64_w, i32_w]
          rfl
        refine pure_ (i := 1) (N := some 135) (v := ?_) (a' := ?_) #[true, true, false, false, false, false, false, false, false, false, false, false, false, false, false, false, false, false, false, false, false, false, false, false, false, false, false, false, false, false, false, false, false, false, false] rfl rfl (by kernel_rfl) (fun _ _ _ h => h) (Or.inl ⟨by rfl, ?_⟩) ?_ ?_
        rotate_left
        · intro w'
          go_simp
          with_reducible rfl
        rotate_left
        · simp only [Act.put, List.setIfInBounds_toArray, List.set_cons_zero, List.set_cons_succ, i64_w, i32_w]
          rfl
        refine pure_ (i := 2) (N := some 136) (v := ?_) (a' := ?_) #[true, true, true, false, false, false, false, false, false, false, false, false, false, false, false, false, false, false, false, false, false, false, false, false, false, false, false, false, false, false, false, false, false, false, false] rfl rfl (by kernel_rfl) (fun _ _ _ h => h) (Or.inl ⟨by rfl, ?_⟩) ?_ ?_
        rotate_left
        · intro w'
          go_simp
          with_reducible rfl
        rotate_left
        · simp only [Act.put, List.setIfInBounds_toArray, List.set_cons_zero, List.set_cons_succ, i64_w, i32_w]
          rfl
        refine pure_ (i := 3) (N := some 137) (v := ?_) (a' := ?_) #[true, true, true, true, false, false, false, false, false, false, false, false, false, false, false, false, false, false, false, false, false, false, false, false, false, false, false, false, false, false, false, false, false, false, false] rfl rfl (by kernel_rfl) (fun _ _ _ h => h) (Or.inl ⟨by rfl, ?_⟩) ?_ ?_
        rotate_left
        · intro w'
          go_simp
          with_reducible rfl
        rotate_left
        · simp only [Act.put, List.setIfInBounds_toArray, List.set_cons_zero, List.set_cons_succ, i64_w, i32_w]
          rfl
        refine take_ (i := 5) (N := some 139) (v := ?_) (a' := ?_) #[true, true, true, true, false, true, false, false, false, false, false, false, false, false, false, false, false, false, false, false, false, false, false, false, false, false, false, false, false, false, false, false, false, false, false] rfl rfl (by kernel_rfl) (fun _ _ _ h => h) (Or.inl ⟨by rfl, ?_⟩) hHeld ?_ ?_
        rotate_left
        · rintro w' ⟨s0, s1, s2, s3, s4⟩
          go_simp
          with_reducible rfl
        rotate_left
        · simp only [Act.put, List.setIfInBounds_toArray, List.set_cons_zero, List.set_cons_succ, i64_w, i32_w]
          rfl
        refine one_ (i := 4) (N := some 138) #[true, true, true, true, true, true, false, false, false, false, false, false, false, false, false, false, false, false, false, false, false, false, false, false, false, false, false, false, false, false, false, false, false, false, false] rfl rfl (by kernel_rfl) (by decide) (fun K hK => ?_)
        refine goes_ Try.func43 (by kernel_rfl) rfl #[.pointer (some ⟨o, 0, none⟩)] (by rfl) rfl rfl (by simp only [List.map_toArray, List.map_cons, List.map_nil]; rfl) ?_
        with_reducible refine (olast_v HD.out la EL.out).mono ?_
        rintro e x1 ⟨rfl, hx1⟩
        refine ⟨_, rfl, ?_⟩
        subst hx1
        refine hK.out _ _ ⟨ka0, ka1, ka2, ka3, ka4⟩ (fun hHeld => ?_)
        clear hK K
        refine norm_ (a' := ?_) ?_ ?_
        rotate_left
        · show Act.put _ (some 138) _ = _
          simp only [Act.put, List.setIfInBounds_toArray, List.set_cons_zero, List.set_cons_succ, i64_w, i32_w]
          rfl
        refine one_ (i := 6) (N := some 140) #[true, true, true, true, true, true, true, false, false, false, false, false, false, false, false, false, false, false, false, false, false, false, false, false, false, false, false, false, false, false, false, false, false, false, false] rfl rfl (by kernel_rfl) (by decide) (fun K hK => ?_)
        refine goes_ Try.func44 (by kernel_rfl) rfl #[.agg #[.string t, .int .i64 dur, .int .i64 room, .slice A n c, .slice B m d]] (by rfl) rfl rfl (by simp only [List.map_toArray, List.map_cons, List.map_nil]; rfl) ?_
        with_reducible refine (r14last_ok t dur room A n c B m d (oopen ms).iss (oopen ms).done _ LA1.out NB).mono ?_
        rintro e x2 ⟨rfl, hb⟩
        refine ⟨_, rfl, ?_⟩
        rw [show olast (⟨(oopen ms).iss, (oopen ms).done⟩ : Orc) = la from EL.out]
        have H2 := Aside0.mk (HD.out.from_below hb)
        have HF2 := Aside0.mk (HF.out.from_below hb)
        clear hb
        have kb0 := HF2.out.cellAt b8 0 (v := .string t) rfl
        have kb1 := HF2.out.cellAt b8 1 (v := .int .i64 dur) rfl
        have kb2 := HF2.out.cellAt b8 2 (v := .int .i64 room) rfl
        have kb3 := HF2.out.cellAt b8 3 (v := .slice A n c) rfl
        have kb4 := HF2.out.cellAt b8 4 (v := .slice B m d) rfl
        have LA2 := Aside0.mk (ref_iss (HF2.out.at (crow 12 27 A n c (issCells (oopen ms).iss))) NN.out NB)
        have LB2 := Aside0.mk (ref_done (HF2.out.at (crow 1 2 B m d ((oopen ms).done.flatMap intC))) MM.out MB)
        refine hK.out _ _ ⟨kb0, kb1, kb2, kb3, kb4⟩ (fun hHeld => ?_)
        clear hK K
        refine norm_ (a' := ?_) ?_ ?_
        rotate_left
        · show Act.put _ (some 140) _ = _
          simp only [Act.put, List.setIfInBounds_toArray, List.set_cons_zero, List.set_cons_succ, i64_w, i32_w]
          rfl
        refine pure_ (i := 7) (N := some 141) (v := ?_) (a' := ?_) #[true, true, true, true, true, true, true, true, false, false, false, false, false, false, false, false, false, false, false, false, false, false, false, false, false, false, false, false, false, false, false, false, false, false, false] rfl rfl (by kernel_rfl) (fun _ _ _ h => h) (Or.inl ⟨by rfl, ?_⟩) ?_ ?_
        rotate_left
        · intro w'
          go_simp
          with_reducible rfl
        rotate_left
        · simp only [Act.put, List.setIfInBounds_toArray, List.set_cons_zero, List.set_cons_succ, i64_w, i32_w]
          rfl
        refine pure_ (i := 8) (N := some 142) (v := ?_) (a' := ?_) #[true, true, true, true, true, true, true, true, true, false, false, false, false, false, false, false, false, false, false, false, false, false, false, false, false, false, false, false, false, false, false, false, false, false, false] rfl rfl (by kernel_rfl) (fun _ _ _ h => h) (Or.inl ⟨by rfl, ?_⟩) ?_ ?_
        rotate_left
        · intro w'
          go_simp
          with_reducible rfl
        rotate_left
        · simp only [Act.put, List.setIfInBounds_toArray, List.set_cons_zero, List.set_cons_succ, i64_w, i32_w]
          rfl
        refine pure_ (i := 9) (N := some 143) (v := ?_) (a' := ?_) #[true, true, true, true, true, true, true, true, true, true, false, false, false, false, false, false, false, false, false, false, false, false, false, false, false, false, false, false, false, false, false, false, false, false, false] rfl rfl (by kernel_rfl) (fun _ _ _ h => h) (Or.inl ⟨by rfl, ?_⟩) ?_ ?_
        rotate_left
        · intro w'
          go_simp
          with_reducible rfl
        rotate_left
        · simp only [Act.put, List.setIfInBounds_toArray, List.set_cons_zero, List.set_cons_succ, i64_w, i32_w]
          rfl
        refine pure_ (i := 10) (N := some 144) (v := ?_) (a' := ?_) #[true, true, true, true, true, true, true, true, true, true, true, false, false, false, false, false, false, false, false, false, false, false, false, false, false, false, false, false, false, false, false, false, false, false, false] rfl rfl (by kernel_rfl) (fun _ _ _ h => h) (Or.inl ⟨by rfl, ?_⟩) ?_ ?_
        rotate_left
        · intro w'
          go_simp
          with_reducible rfl
        rotate_left
        · simp only [Act.put, List.setIfInBounds_toArray, List.set_cons_zero, List.set_cons_succ, i64_w, i32_w]
          rfl
        refine take_ (i := 12) (N := some 146) (v := ?_) (a' := ?_) #[true, true, true, true, true, true, true, true, true, true, true, false, true, false, false, false, false, false, false, false, false, false, false, false, false, false, false, false, false, false, false, false, false, false, false] rfl rfl (by kernel_rfl) (fun _ _ _ h => h) (Or.inl ⟨by rfl, ?_⟩) hHeld ?_ ?_
        rotate_left
        · rintro w' ⟨s0, s1, s2, s3, s4⟩
          go_simp
          with_reducible rfl
        rotate_left
        · simp only [Act.put, List.setIfInBounds_toArray, List.set_cons_zero, List.set_cons_succ, i64_w, i32_w]
          rfl
        refine one_ (i := 11) (N := some 145) #[true, true, true, true, true, true, true, true, true, true, true, true, true, false, false, false, false, false, false, false, false, false, false, false, false, false, false, false, false, false, false, false, false, false, false] rfl rfl (by kernel_rfl) (by decide) (fun K hK => ?_)
        refine goes_ Try.func45 (by kernel_rfl) rfl #[.pointer (some ⟨o, 0, none⟩)] (by rfl) rfl rfl (by simp only [List.map_toArray, List.map_cons, List.map_nil]; rfl) ?_
        with_reducible refine (closed_v H2.out OM.out cl CL.out).mono ?_
        rintro e x3 ⟨rfl, hx3⟩
        refine ⟨_, rfl, ?_⟩
        subst hx3
        refine hK.out _ _ ⟨kb0, kb1, kb2, kb3, kb4⟩ (fun hHeld => ?_)
        clear hK K
        refine norm_ (a' := ?_) ?_ ?_
        rotate_left
        · show Act.put _ (some 145) _ = _
          simp only [Act.put, List.setIfInBounds_toArray, List.set_cons_zero, List.set_cons_succ, i64_w, i32_w]
          rfl
        refine one_ (i := 13) (N := some 147) #[true, true, true, true, true, true, true, true, true, true, true, true, true, true, false, false, false, false, false, false, false, false, false, false, false, false, false, false, false, false, false, false, false, false, false] rfl rfl (by kernel_rfl) (by decide) (fun K hK => ?_)
        refine goes_ Try.func46 (by kernel_rfl) rfl #[.agg #[.string t, .int .i64 dur, .int .i64 room, .slice A n c, .slice B m d]] (by rfl) rfl rfl (by simp only [List.map_toArray, List.map_cons, List.map_nil]; rfl) ?_
        with_reducible refine (r14closed_ok t dur room A n c B m d (oopen ms).iss (oopen ms).done _ LA2.out NB LB2.out MB RG.out).mono ?_
        rintro e x4 ⟨rfl, hb⟩
        refine ⟨_, rfl, ?_⟩
        rw [show oclosed (⟨(oopen ms).iss, (oopen ms).done⟩ : Orc) = cl from CL.out]
        have H4 := Aside0.mk (H2.out.from_below hb)
        have HF4 := Aside0.mk (HF2.out.from_below hb)
        clear hb
        have kc0 := HF4.out.cellAt b8 0 (v := .string t) rfl
        have kc1 := HF4.out.cellAt b8 1 (v := .int .i64 dur) rfl
        have kc2 := HF4.out.cellAt b8 2 (v := .int .i64 room) rfl
        have kc3 := HF4.out.cellAt b8 3 (v := .slice A n c) rfl
        have kc4 := HF4.out.cellAt b8 4 (v := .slice B m d) rfl
        refine hK.out _ _ ⟨kc0, kc1, kc2, kc3, kc4⟩ (fun hHeld => ?_)
        clear hK K
        refine norm_ (a' := ?_) ?_ ?_
        rotate_left
        · show Act.put _ (some 147) _ = _
          simp only [Act.put, List.setIfInBounds_toArray, List.set_cons_zero, List.set_cons_succ, i64_w, i32_w]
          rfl
        refine pure_ (i := 14) (N := some 148) (v := ?_) (a' := ?_) #[true, true, true, true, true, true, true, true, true, true, true, true, true, true, true, false, false, false, false, false, false, false, false, false, false, false, false, false, false, false, false, false, false, false, false] rfl rfl (by kernel_rfl) (fun _ _ _ h => h) (Or.inl ⟨by rfl, ?_⟩) ?_ ?_
        rotate_left
        · intro w'
          go_simp
          with_reducible rfl
        rotate_left
        · simp only [Act.put, List.setIfInBounds_toArray, List.set_cons_zero, List.set_cons_succ, i64_w, i32_w]
          rfl
        refine pure_ (i := 15) (N := some 149) (v := ?_) (a' := ?_) #[true, true, true, true, true, true, true, true, true, true, true, true, true, true, true, true, false, false, false, false, false, false, false, false, false, false, false, false, false, false, false, false, false, false, false] rfl rfl (by kernel_rfl) (fun _ _ _ h => h) (Or.inl ⟨by rfl, ?_⟩) ?_ ?_
        rotate_left
        · intro w'
          go_simp
          with_reducible rfl
        rotate_left
        · simp only [Act.put, List.setIfInBounds_toArray, List.set_cons_zero, List.set_cons_succ, i64_w, i32_w]
          rfl
        refine pure_ (i := 16) (N := some 150) (v := ?_) (a' := ?_) #[true, true, true, true, true, true, true, true, true, true, true, true, true, true, true, true, true, false, false, false, false, false, false, false, false, false, false, false, false, false, false, false, false, false, false] rfl rfl (by kernel_rfl) (fun _ _ _ h => h) (Or.inl ⟨by rfl, ?_⟩) ?_ ?_
        rotate_left
        · intro w'
          go_simp
          with_reducible rfl
        rotate_left
        · simp only [Act.put, List.setIfInBounds_toArray, List.set_cons_zero, List.set_cons_succ, i64_w, i32_w]
          rfl
        refine pure_ (i := 17) (N := some 151) (v := ?_) (a' := ?_) #[true, true, true, true, true, true, true, true, true, true, true, true, true, true, true, true, true, true, false, false, false, false, false, false, false, false, false, false, false, false, false, false, false, false, false] rfl rfl (by kernel_rfl) (fun _ _ _ h => h) (Or.inl ⟨by rfl, ?_⟩) ?_ ?_
        rotate_left
        · intro w'
          go_simp
          with_reducible rfl
        rotate_left
        · simp only [Act.put, List.setIfInBounds_toArray, List.set_cons_zero, List.set_cons_succ, i64_w, i32_w]
          rfl
        refine take_ (i := 19) (N := some 153) (v := ?_) (a' := ?_) #[true, true, true, true, true, true, true, true, true, true, true, true, true, true, true, true, true, true, false, true, false, false, false, false, false, false, false, false, false, false, false, false, false, false, false] rfl rfl (by kernel_rfl) (fun _ _ _ h => h) (Or.inl ⟨by rfl, ?_⟩) hHeld ?_ ?_
        rotate_left
        · rintro w' ⟨s0, s1, s2, s3, s4⟩
          go_simp
          with_reducible rfl
        rotate_left
        · simp only [Act.put, List.setIfInBounds_toArray, List.set_cons_zero, List.set_cons_succ, i64_w, i32_w]
          rfl
        refine one_ (i := 18) (N := some 152) #[true, true, true, true, true, true, true, true, true, true, true, true, true, true, true, true, true, true, true, true, false, false, false, false, false, false, false, false, false, false, false, false, false, false, false] rfl rfl (by kernel_rfl) (by decide) (fun K hK => ?_)
        refine goes_ Try.func48 (by kernel_rfl) rfl #[.pointer (some ⟨o, 0, none⟩)] (by rfl) rfl rfl (by simp only [List.map_toArray, List.map_cons, List.map_nil]; rfl) ?_
        with_reducible refine (pending_on H4.out OM.out nl NL.out).mono ?_
        rintro e x5 ⟨AP, cP, rfl, g5⟩
        refine ⟨_, rfl, ?_⟩
        have H5 := Aside0.mk g5
        obtain ⟨G5, HG5, _⟩ := orcOn_open H5.out
        have HF5 := Aside0.mk (HG5.as (by ac_rfl : _ = crow 12 27 AP nl cP (issCells (opend (oopen ms))) * (blk b (.cells #[.int .i64 kind, .int .i64 src, .int .i64 id, .int .i64 mm.kind, .int .i64 mm.src, .int .i64 mm.dst, .int .i64 mm.id, .int .i64 mm.rev, .int .i64 mm.epoch, .int .i64 mm.slot, .bool mm.flag, .slice A1 n1 c1, .slice A2 n2 c2, .slice A3 n3 c3, .slice A4 n4 c4] 80) * (blk b8 (.cells #[.string t, .int .i64 dur, .int .i64 room, .slice A n c, .slice B m d] 77) * (crow 12 27 A n c (issCells (oopen ms).iss) * (crow 1 2 B m d ((oopen ms).done.flatMap intC) * G5))))))
        clear g5 HG5
        have kd0 := HF5.out.cellAt b8 0 (v := .string t) rfl
        have kd1 := HF5.out.cellAt b8 1 (v := .int .i64 dur) rfl
        have kd2 := HF5.out.cellAt b8 2 (v := .int .i64 room) rfl
        have kd3 := HF5.out.cellAt b8 3 (v := .slice A n c) rfl
        have kd4 := HF5.out.cellAt b8 4 (v := .slice B m d) rfl
        have LA5 := Aside0.mk (ref_iss (HF5.out.at (crow 12 27 A n c (issCells (oopen ms).iss))) NN.out NB)
        have LB5 := Aside0.mk (ref_done (HF5.out.at (crow 1 2 B m d ((oopen ms).done.flatMap intC))) MM.out MB)
        refine hK.out _ _ ⟨kd0, kd1, kd2, kd3, kd4⟩ (fun hHeld => ?_)
        clear hK K
        refine norm_ (a' := ?_) ?_ ?_
        rotate_left
        · show Act.put _ (some 152) _ = _
          simp only [Act.put, List.setIfInBounds_toArray, List.set_cons_zero, List.set_cons_succ, i64_w, i32_w]
          rfl
        refine one_ (i := 20) (N := some 154) #[true, true, true, true, true, true, true, true, true, true, true, true, true, true, true, true, true, true, true, true, true, false, false, false, false, false, false, false, false, false, false, false, false, false, false] rfl rfl (by kernel_rfl) (by decide) (fun K hK => ?_)
        refine goes_ Try.func49 (by kernel_rfl) rfl #[.agg #[.string t, .int .i64 dur, .int .i64 room, .slice A n c, .slice B m d]] (by rfl) rfl rfl (by simp only [List.map_toArray, List.map_cons, List.map_nil]; rfl) ?_
        with_reducible refine (r14pend_ok t dur room A n c B m d (oopen ms).iss (oopen ms).done _ LA5.out NB LB5.out MB).mono ?_
        rintro e x6 ⟨A5, n5, c5, rfl, f1, f2⟩
        refine ⟨_, rfl, ?_⟩
        have hn5 : n5 = nl := f1.trans NL.out
        subst hn5
        have H6 := Aside0.mk ((H5.out.trans f2).as (by rw [HP.mul_emp] : _ = crow 12 27 A5 n5 c5 (issCells (opend (oopen ms))) * (crow 12 27 AP n5 cP (issCells (opend (oopen ms))) * (blk b (.cells #[.int .i64 kind, .int .i64 src, .int .i64 id, .int .i64 mm.kind, .int .i64 mm.src, .int .i64 mm.dst, .int .i64 mm.id, .int .i64 mm.rev, .int .i64 mm.epoch, .int .i64 mm.slot, .bool mm.flag, .slice A1 n1 c1, .slice A2 n2 c2, .slice A3 n3 c3, .slice A4 n4 c4] 80) * (blk b8 (.cells #[.string t, .int .i64 dur, .int .i64 room, .slice A n c, .slice B m d] 77) * (crow 12 27 A n c (issCells (oopen ms).iss) * crow 1 2 B m d ((oopen ms).done.flatMap intC)))))))
        have HF6 := Aside0.mk ((HF5.out.trans f2).as (by rw [HP.mul_emp] : _ = crow 12 27 A5 n5 c5 (issCells (opend (oopen ms))) * (crow 12 27 AP n5 cP (issCells (opend (oopen ms))) * (blk b (.cells #[.int .i64 kind, .int .i64 src, .int .i64 id, .int .i64 mm.kind, .int .i64 mm.src, .int .i64 mm.dst, .int .i64 mm.id, .int .i64 mm.rev, .int .i64 mm.epoch, .int .i64 mm.slot, .bool mm.flag, .slice A1 n1 c1, .slice A2 n2 c2, .slice A3 n3 c3, .slice A4 n4 c4] 80) * (blk b8 (.cells #[.string t, .int .i64 dur, .int .i64 room, .slice A n c, .slice B m d] 77) * (crow 12 27 A n c (issCells (oopen ms).iss) * (crow 1 2 B m d ((oopen ms).done.flatMap intC) * G5)))))))
        clear f1 f2
        have MA6 := Aside0.mk (iss_msgs (HF6.out.at (crow 12 27 AP n5 cP (issCells (opend (oopen ms))))) NL.out.symm NLE)
        have MB6 := Aside0.mk (iss_msgs (HF6.out.at (crow 12 27 A5 n5 c5 (issCells (opend (oopen ms))))) NL.out.symm NLE)
        have ke0 := HF6.out.cellAt b8 0 (v := .string t) rfl
        have ke1 := HF6.out.cellAt b8 1 (v := .int .i64 dur) rfl
        have ke2 := HF6.out.cellAt b8 2 (v := .int .i64 room) rfl
        have ke3 := HF6.out.cellAt b8 3 (v := .slice A n c) rfl
        have ke4 := HF6.out.cellAt b8 4 (v := .slice B m d) rfl
        refine hK.out _ _ ⟨ke0, ke1, ke2, ke3, ke4⟩ (fun hHeld => ?_)
        clear hK K
        refine norm_ (a' := ?_) ?_ ?_
        rotate_left
        · show Act.put _ (some 154) _ = _
          simp only [Act.put, List.setIfInBounds_toArray, List.set_cons_zero, List.set_cons_succ, i64_w, i32_w]
          rfl
        refine one_ (i := 21) (N := some 155) #[true, true, true, true, true, true, true, true, true, true, true, true, true, true, true, true, true, true, true, true, true, true, false, false, false, false, false, false, false, false, false, false, false, false, false] rfl rfl (by kernel_rfl) (by decide) (fun K hK => ?_)
        refine goes_ Try.func47 (by kernel_rfl) rfl #[.slice AP n5 cP, .slice A5 n5 c5] (by rfl) rfl rfl (by simp only [List.map_toArray, List.map_cons, List.map_nil]; rfl) ?_
        with_reducible refine (osame_ok AP n5 cP _ A5 n5 c5 _ x6 MA6.out MB6.out).mono ?_
        rintro e x7 ⟨bb, rfl, hbb, hb⟩
        refine ⟨_, rfl, ?_⟩
        obtain rfl : bb = true := hbb.2 rfl
        have H7 := Aside0.mk (H6.out.from_below hb)
        have HF7 := Aside0.mk (HF6.out.from_below hb)
        clear hb hbb
        have kf0 := HF7.out.cellAt b8 0 (v := .string t) rfl
        have kf1 := HF7.out.cellAt b8 1 (v := .int .i64 dur) rfl
        have kf2 := HF7.out.cellAt b8 2 (v := .int .i64 room) rfl
        have kf3 := HF7.out.cellAt b8 3 (v := .slice A n c) rfl
        have kf4 := HF7.out.cellAt b8 4 (v := .slice B m d) rfl
        refine hK.out _ _ ⟨kf0, kf1, kf2, kf3, kf4⟩ (fun hHeld => ?_)
        clear hK K
        refine norm_ (a' := ?_) ?_ ?_
        rotate_left
        · show Act.put _ (some 155) _ = _
          simp only [Act.put, List.setIfInBounds_toArray, List.set_cons_zero, List.set_cons_succ, i64_w, i32_w]
          rfl
        refine pure_ (i := 22) (N := some 156) (v := ?_) (a' := ?_) #[true, true, true, true, true, true, true, true, true, true, true, true, true, true, true, true, true, true, true, true, true, true, true, false, false, false, false, false, false, false, false, false, false, false, false] rfl rfl (by kernel_rfl) (fun _ _ _ h => h) (Or.inl ⟨by rfl, ?_⟩) ?_ ?_
        rotate_left
        · intro w'
          go_simp
          with_reducible rfl
        rotate_left
        · simp only [Act.put, List.setIfInBounds_toArray, List.set_cons_zero, List.set_cons_succ, i64_w, i32_w]
          rfl
        refine pure_ (i := 23) (N := some 157) (v := ?_) (a' := ?_) #[true, true, true, true, true, true, true, true, true, true, true, true, true, true, true, true, true, true, true, true, true, true, true, true, false, false, false, false, false, false, false, false, false, false, false] rfl rfl (by kernel_rfl) (fun _ _ _ h => h) (Or.inl ⟨by rfl, ?_⟩) ?_ ?_
        rotate_left
        · intro w'
          go_simp
          with_reducible rfl
        rotate_left
        · simp only [Act.put, List.setIfInBounds_toArray, List.set_cons_zero, List.set_cons_succ, i64_w, i32_w]
          rfl
        refine pure_ (i := 24) (N := some 158) (v := ?_) (a' := ?_) #[true, true, true, true, true, true, true, true, true, true, true, true, true, true, true, true, true, true, true, true, true, true, true, true, true, false, false, false, false, false, false, false, false, false, false] rfl rfl (by kernel_rfl) (fun _ _ _ h => h) (Or.inl ⟨by rfl, ?_⟩) ?_ ?_
        rotate_left
        · intro w'
          go_simp
          with_reducible rfl
        rotate_left
        · simp only [Act.put, List.setIfInBounds_toArray, List.set_cons_zero, List.set_cons_succ, i64_w, i32_w]
          rfl
        refine pure_ (i := 25) (N := some 159) (v := ?_) (a' := ?_) #[true, true, true, true, true, true, true, true, true, true, true, true, true, true, true, true, true, true, true, true, true, true, true, true, true, true, false, false, false, false, false, false, false, false, false] rfl rfl (by kernel_rfl) (fun _ _ _ h => h) (Or.inl ⟨by rfl, ?_⟩) ?_ ?_
        rotate_left
        · intro w'
          go_simp
          with_reducible rfl
        rotate_left
        · simp only [Act.put, List.setIfInBounds_toArray, List.set_cons_zero, List.set_cons_succ, i64_w, i32_w]
          rfl
        refine pure_ (i := 26) (N := some 160) (v := ?_) (a' := ?_) #[true, true, true, true, true, true, true, true, true, true, true, true, true, true, true, true, true, true, true, true, true, true, true, true, true, true, true, false, false, false, false, false, false, false, false] rfl rfl (by kernel_rfl) (fun _ _ _ h => h) (Or.inl ⟨by rfl, ?_⟩) ?_ ?_
        rotate_left
        · intro w'
          go_simp
          with_reducible rfl
        rotate_left
        · simp only [Act.put, List.setIfInBounds_toArray, List.set_cons_zero, List.set_cons_succ, i64_w, i32_w]
          rfl
        refine pure_ (i := 27) (N := some 161) (v := ?_) (a' := ?_) #[true, true, true, true, true, true, true, true, true, true, true, true, true, true, true, true, true, true, true, true, true, true, true, true, true, true, true, true, false, false, false, false, false, false, false] rfl rfl (by kernel_rfl) (fun _ _ _ h => h) (Or.inl ⟨by rfl, ?_⟩) ?_ ?_
        rotate_left
        · intro w'
          go_simp
          with_reducible rfl
        rotate_left
        · simp only [Act.put, List.setIfInBounds_toArray, List.set_cons_zero, List.set_cons_succ, i64_w, i32_w]
          rfl
        refine pure_ (i := 30) (N := some 164) (v := ?_) (a' := ?_) #[true, true, true, true, true, true, true, true, true, true, true, true, true, true, true, true, true, true, true, true, true, true, true, true, true, true, true, true, false, false, true, false, false, false, false] rfl rfl (by kernel_rfl) (fun _ _ _ h => h) (Or.inl ⟨by rfl, ?_⟩) ?_ ?_
        rotate_left
        · intro w'
          go_simp
          with_reducible rfl
        rotate_left
        · simp only [Act.put, List.setIfInBounds_toArray, List.set_cons_zero, List.set_cons_succ, i64_w, i32_w]
          rfl
        refine pure_ (i := 31) (N := some 165) (v := ?_) (a' := ?_) #[true, true, true, true, true, true, true, true, true, true, true, true, true, true, true, true, true, true, true, true, true, true, true, true, true, true, true, true, false, false, true, true, false, false, false] rfl rfl (by kernel_rfl) (fun _ _ _ h => h) (Or.inl ⟨by rfl, ?_⟩) ?_ ?_
        rotate_left
        · intro w'
          go_simp
          with_reducible rfl
        rotate_left
        · simp only [Act.put, List.setIfInBounds_toArray, List.set_cons_zero, List.set_cons_succ, i64_w, i32_w]
          rfl
        refine take_ (i := 32) (N := some 166) (v := ?_) (a' := ?_) #[true, true, true, true, true, true, true, true, true, true, true, true, true, true, true, true, true, true, true, true, true, true, true, true, true, true, true, true, false, false, true, true, true, false, false] rfl rfl (by kernel_rfl) (fun _ _ _ h => h) (Or.inl ⟨by rfl, ?_⟩) hHeld ?_ ?_
        rotate_left
        · rintro w' ⟨s0, s1, s2, s3, s4⟩
          go_simp
          with_reducible rfl
        rotate_left
        · simp only [Act.put, List.setIfInBounds_toArray, List.set_cons_zero, List.set_cons_succ, i64_w, i32_w]
          rfl
        refine one_ (i := 28) (N := some 162) #[true, true, true, true, true, true, true, true, true, true, true, true, true, true, true, true, true, true, true, true, true, true, true, true, true, true, true, true, true, false, true, true, true, false, false] rfl rfl (by kernel_rfl) (by decide) (fun K hK => ?_)
        refine goes_ Try.func33 (by kernel_rfl) rfl #[.pointer (some ⟨p, 0, none⟩)] (by rfl) rfl rfl (by simp only [List.map_toArray, List.map_cons, List.map_nil]; rfl) ?_
        with_reducible refine (obytes_on H7.out sz SZB.out SZL).mono ?_
        rintro e x8 ⟨AA, ca, rfl, g8⟩
        refine ⟨_, rfl, ?_⟩
        have H8 := Aside0.mk g8
        obtain ⟨G8, HG8, _⟩ := orcOn_open H8.out
        have HF8 := Aside0.mk (HG8.as (by ac_rfl : _ = row (Kd.int .u8) 5 (.slice AA sz ca) (logB ms) * (crow 12 27 A5 n5 c5 (issCells (opend (oopen ms))) * (crow 12 27 AP n5 cP (issCells (opend (oopen ms))) * (blk b (.cells #[.int .i64 kind, .int .i64 src, .int .i64 id, .int .i64 mm.kind, .int .i64 mm.src, .int .i64 mm.dst, .int .i64 mm.id, .int .i64 mm.rev, .int .i64 mm.epoch, .int .i64 mm.slot, .bool mm.flag, .slice A1 n1 c1, .slice A2 n2 c2, .slice A3 n3 c3, .slice A4 n4 c4] 80) * (blk b8 (.cells #[.string t, .int .i64 dur, .int .i64 room, .slice A n c, .slice B m d] 77) * (crow 12 27 A n c (issCells (oopen ms).iss) * (crow 1 2 B m d ((oopen ms).done.flatMap intC) * G8))))))))
        have hs8 := HF8.out.row_string Try.underlying28 Try.underlying5 Try.underlying9
        rw [← TT.out] at hs8
        clear g8 HG8
        have kg0 := HF8.out.cellAt b8 0 (v := .string t) rfl
        have kg1 := HF8.out.cellAt b8 1 (v := .int .i64 dur) rfl
        have kg2 := HF8.out.cellAt b8 2 (v := .int .i64 room) rfl
        have kg3 := HF8.out.cellAt b8 3 (v := .slice A n c) rfl
        have kg4 := HF8.out.cellAt b8 4 (v := .slice B m d) rfl
        refine hK.out _ _ ⟨kg0, kg1, kg2, kg3, kg4⟩ (fun hHeld => ?_)
        clear hK K
        refine norm_ (a' := ?_) ?_ ?_
        rotate_left
        · show Act.put _ (some 162) _ = _
          simp only [Act.put, List.setIfInBounds_toArray, List.set_cons_zero, List.set_cons_succ, i64_w, i32_w]
          rfl
        refine one_ (i := 29) (N := some 163) #[true, true, true, true, true, true, true, true, true, true, true, true, true, true, true, true, true, true, true, true, true, true, true, true, true, true, true, true, true, true, true, true, true, false, false] rfl rfl (by kernel_rfl) (by decide) (fun K hK => ?_)
        refine value_ (w1 := ?_) (v := ?_) (by rfl) rfl ?_ ?_
        rotate_left 2
        · go_simp
          constructor
          · rfl
          · rfl
        refine hK.out _ _ ⟨kg0, kg1, kg2, kg3, kg4⟩ (fun hHeld => ?_)
        clear hK K
        refine norm_ (a' := ?_) ?_ ?_
        rotate_left
        · show Act.put _ (some 163) _ = _
          simp only [Act.put, List.setIfInBounds_toArray, List.set_cons_zero, List.set_cons_succ, i64_w, i32_w]
          rfl
        refine pure_ (i := 33) (N := some 167) (v := ?_) (a' := ?_) #[true, true, true, true, true, true, true, true, true, true, true, true, true, true, true, true, true, true, true, true, true, true, true, true, true, true, true, true, true, true, true, true, true, true, false] rfl rfl (by kernel_rfl) (fun _ _ _ h => h) (Or.inl ⟨by rfl, ?_⟩) ?_ ?_
        rotate_left
        · intro w'
          go_simp
          with_reducible rfl
        rotate_left
        · simp only [Act.put, List.setIfInBounds_toArray, List.set_cons_zero, List.set_cons_succ, i64_w, i32_w]
          rfl
        refine pure_ (i := 34) (N := some 168) (v := ?_) (a' := ?_) #[true, true, true, true, true, true, true, true, true, true, true, true, true, true, true, true, true, true, true, true, true, true, true, true, true, true, true, true, true, true, true, true, true, true, true] rfl rfl (by kernel_rfl) (fun _ _ _ h => h) (Or.inl ⟨by rfl, ?_⟩) ?_ ?_
        rotate_left
        · intro w'
          go_simp
          with_reducible rfl
        rotate_left
        · simp only [Act.put, List.setIfInBounds_toArray, List.set_cons_zero, List.set_cons_succ, i64_w, i32_w]
          rfl
        refine done_ (by kernel_rfl) ?_
        clear hHeld ka0 ka1 ka2 ka3 ka4 kb0 kb1 kb2 kb3 kb4 kc0 kc1 kc2 kc3 kc4 kd0 kd1 kd2 kd3 kd4 ke0 ke1 ke2 ke3 ke4 kf0 kf1 kf2 kf3 kf4 kg0 kg1 kg2 kg3 kg4
        have H9 := Aside0.mk (((H8.out.as (by ac_rfl : _ = (blk b8 (.cells #[.string t, .int .i64 dur, .int .i64 room, .slice A n c, .slice B m d] 77) * (crow 12 27 A n c (issCells (oopen ms).iss) * crow 1 2 B m d ((oopen ms).done.flatMap intC))) * (blk b (.cells #[.int .i64 kind, .int .i64 src, .int .i64 id, .int .i64 mm.kind, .int .i64 mm.src, .int .i64 mm.dst, .int .i64 mm.id, .int .i64 mm.rev, .int .i64 mm.epoch, .int .i64 mm.slot, .bool mm.flag, .slice A1 n1 c1, .slice A2 n2 c2, .slice A3 n3 c3, .slice A4 n4 c4] 80) * (row (Kd.int .u8) 5 (.slice AA sz ca) (logB ms) * (crow 12 27 A5 n5 c5 (issCells (opend (oopen ms))) * crow 12 27 AP n5 cP (issCells (opend (oopen ms)))))))).drop).as (by rw [HP.comm HP.emp, HP.mul_emp] : _ = (HP.emp * (blk b8 (.cells #[.string t, .int .i64 dur, .int .i64 room, .slice A n c, .slice B m d] 77) * (crow 12 27 A n c (issCells (oopen ms).iss) * crow 1 2 B m d ((oopen ms).done.flatMap intC))))))
        clear H8 HF8 H7 HF7 H6 HF6 H5 HF5 H4 HF4 H2 HF2 HD HF MA6 MB6 hs8
        go_wp2_with fail
        go_roundw
        case rel => exact ⟨j + 1, o, ms, t, dur, A, n, c, B, m, d, by omega, by go_num, rfl, OM, TT, DD, NN, MM, H9⟩
        case measure => simp [intOf]; omega
    · have hjn : j = nn := by omega
      subst hjn
      go_wp2_with fail
      go_ret
      exact ⟨rfl, HW.out.below⟩
set_option maxHeartbeats 3200000 in
set_option maxRecDepth 100000 in
theorem oraclePlays_bad (A : Option Addr) (n c : Nat) (room : Int) (w : World) (hr : room < 0 ∨ 1048576 < room) :
    Calls Try.prog 5 #[.int .i64 room, .slice A n c] w fun e w' => e = .returned (.bool true) ∧ Below w.heap.size w w' := by
  go_enter Try.func5, Try.ntmps5
  go_wp2_with fail
  refine (oawake_ok w).mono ?_
  rintro e w1 ⟨rfl, h1⟩
  have H1 := Aside0.mk ((Hw.start w).from_below h1)
  clear h1
  go_wp2_with fail
  refine (new_bad room hr).mono ?_
  rintro e w2 ⟨rfl, rfl⟩
  go_wp2_with fail
  refine (refWrong_bad room _ hr).mono ?_
  rintro e w3 ⟨rfl, hd⟩
  have H3 := Aside0.mk (H1.out.drawn hd)
  clear hd H1
  go_wp2_with fail
  go_ret
  exact ⟨rfl, H3.out.below⟩
theorem oraclePlays_walk (room : Int) (A : Option Addr) (ca : Nat) (ys : List TP) (w : World) (_ : (Lit.int .i64 room).wf = true) (hA : KOp14.C w A ys.length ys) (hca : ys.length ≤ ca)
    (sa : ys.length * 184 ≤ 140737488351232 ∧ ∀ y ∈ ys, sP0 y) :
    Calls Try.prog 5 #[.int .i64 room, .slice A ys.length ca] w fun e w' => e = .returned (.bool true) ∧ Below w.heap.size w w' := by
  by_cases h : room < 0 ∨ 1048576 < room
  · exact oraclePlays_bad A _ ca room w h
  · exact oraclePlays_ok A _ ca ys room w hA sa.2 (by omega) (by omega)
end Go.Proofs.Ytckdkbjobipniaa
