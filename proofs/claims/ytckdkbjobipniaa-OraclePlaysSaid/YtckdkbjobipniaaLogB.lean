/- The log's functions but Open. Printed by wip/gen/logo.py. -/
import Derived.Test.YtckdkbjobipniaaLogN
import Derived.Test.YtckdkbjobipniaaDA
import Derived.Test.YtckdkbjobipniaaLogA
import Derived.Test.YtckdkbjobipniaaBA
set_option linter.unusedVariables false
set_option linter.unusedSimpArgs false
namespace Go.Proofs.Ytckdkbjobipniaa
open Go.RowKit Go.Proofs.YtckdkbjobipniaaW.PrintWords Go.Proofs.YtckdkbjobipniaaW.PrintLast
/-- A log: its disk, how many records it has. -/
abbrev logP (q p : Nat) (k : Int) : HP := blk q (.cells #[.pointer (some ⟨p, 0, none⟩), .int .i64 k] 166)
/-- What Add answers. -/
noncomputable def addErr (m : Msg) (len : Nat) (room : Int) : Int := if encGood m = true then (if room < ((len + (recOf m).length : Nat) : Int) then 3 else 0) else 2
noncomputable def addB (m : Msg) (bytes : List Int) (room : Int) : List Int := if addErr m bytes.length room = 0 then bytes ++ recOf m else bytes
noncomputable def addK (m : Msg) (len : Nat) (room : Int) (k : Int) : Int := if addErr m len room = 0 then k + 1 else k
theorem encGood_iff {m : Msg} : encGood m = true ↔ MsgFits m ∧ (encMsg m).length ≤ 16384 := ⟨fun h => @of_decide_eq_true _ (Classical.propDecidable _) h, fun h => @decide_eq_true _ (Classical.propDecidable _) h⟩
theorem addErr_ok {m : Msg} {len : Nat} {room : Int} (h : addErr m len room = 0) : encGood m = true ∧ ((len + (recOf m).length : Nat) : Int) ≤ room := by
  unfold addErr at h
  split at h
  · rename_i hg
    split at h
    · exact absurd h (by decide)
    · exact ⟨hg, by omega⟩
  · exact absurd h (by decide)
section
variable {w0 w : World}
theorem kx1 {D R R' E M L F : HP} (h : Hw w0 w (D * (R * (R' * (E * (M * (L * F))))))) : Hw w0 w (L * (D * F)) := (h.as (Q := L * (D * F) * (R * (R' * (E * M)))) (by ac_rfl)).left
theorem kx2 {D R R' E M L F : HP} (h : Hw w0 w (L * (D * (R * (R' * (E * (M * F))))))) : Hw w0 w (L * (D * F)) := (h.as (Q := L * (D * F) * (R * (R' * (E * M)))) (by ac_rfl)).left
theorem kx4 {D L M F : HP} (h : Hw w0 w (D * (L * (M * F)))) : Hw w0 w (L * (D * F)) := (h.as (Q := L * (D * F) * M) (by ac_rfl)).left
theorem kx5 {D L M F : HP} (h : Hw w0 w (L * (D * (M * F)))) : Hw w0 w (L * (D * F)) := (h.as (Q := L * (D * F) * M) (by ac_rfl)).left
theorem kx3 {R E M L D F : HP} (h : Hw w0 w (R * E * (M * (L * (D * F))))) : Hw w0 w (L * (D * F)) := (h.as (Q := L * (D * F) * (R * E * M)) (by ac_rfl)).left
end
section
variable {w0 w : World} {F : HP} {q p : Nat} {k : Int} {bytes : List Int} {dur room : Int}
set_option maxHeartbeats 6400000 in
set_option maxRecDepth 100000 in
theorem ladd_ok (m : Msg) (A1 A2 A3 A4 : Option Addr) (n1 n2 n3 n4 c1 c2 c3 c4 : Nat) (hC : MsgC w m (A1, n1, c1) (A2, n2, c2) (A3, n3, c3) (A4, n4, c4)) (hok : MsgOk m)
    (h : Hw w0 w (logP q p k * (disk p bytes dur room * F))) (hr : 0 ≤ room) (hr2 : room ≤ 1048576) (hk : 0 ≤ k) (hk2 : k ≤ 1000000000000) :
    Calls Try.prog 21 #[.pointer (some ⟨q, 0, none⟩), msgV m (A1, n1, c1) (A2, n2, c2) (A3, n3, c3) (A4, n4, c4)] w fun e w' =>
      e = .returned (.int .i64 (addErr m bytes.length room)) ∧ Hw w0 w' (logP q p (addK m bytes.length room k) * (disk p (addB m bytes room) dur room * F)) := by
  have MC := Aside0.mk hC
  have OK := Aside0.mk hok
  have H1 := Aside0.mk (h.alloc (.cells #[.int .i64 m.kind, .int .i64 m.src, .int .i64 m.dst, .int .i64 m.id, .int .i64 m.rev, .int .i64 m.epoch, .int .i64 m.slot, .bool m.flag, .slice A1 n1 c1, .slice A2 n2 c2, .slice A3 n3 c3, .slice A4 n4 c4] 27))
  have EA := Aside0.mk (show addErr m bytes.length room = if encGood m = true then (if room < ((bytes.length + (recOf m).length : Nat) : Int) then 3 else 0) else 2 from rfl)
  have EB := Aside0.mk (show addB m bytes room = if addErr m bytes.length room = 0 then bytes ++ recOf m else bytes from rfl)
  have EK := Aside0.mk (show addK m bytes.length room k = if addErr m bytes.length room = 0 then k + 1 else k from rfl)
  clear hC hok h
  have k0 := H1.out.cellAt w.heap.size 0 (v := .int .i64 m.kind) rfl
  have k1 := H1.out.cellAt w.heap.size 1 (v := .int .i64 m.src) rfl
  have k2 := H1.out.cellAt w.heap.size 2 (v := .int .i64 m.dst) rfl
  have k3 := H1.out.cellAt w.heap.size 3 (v := .int .i64 m.id) rfl
  have k4 := H1.out.cellAt w.heap.size 4 (v := .int .i64 m.rev) rfl
  have k5 := H1.out.cellAt w.heap.size 5 (v := .int .i64 m.epoch) rfl
  have k6 := H1.out.cellAt w.heap.size 6 (v := .int .i64 m.slot) rfl
  have k7 := H1.out.cellAt w.heap.size 7 (v := .bool m.flag) rfl
  have k8 := H1.out.cellAt w.heap.size 8 (v := .slice A1 n1 c1) rfl
  have k9 := H1.out.cellAt w.heap.size 9 (v := .slice A2 n2 c2) rfl
  have k10 := H1.out.cellAt w.heap.size 10 (v := .slice A3 n3 c3) rfl
  have k11 := H1.out.cellAt w.heap.size 11 (v := .slice A4 n4 c4) rfl
  have EN := Aside0.mk (encode_ok m A1 A2 A3 A4 n1 n2 n3 n4 c1 c2 c3 c4 _ (MC.out.below ((Hw.start w).alloc (.cells #[.int .i64 m.kind, .int .i64 m.src, .int .i64 m.dst, .int .i64 m.id, .int .i64 m.rev, .int .i64 m.epoch, .int .i64 m.slot, .bool m.flag, .slice A1 n1 c1, .slice A2 n2 c2, .slice A3 n3 c3, .slice A4 n4 c4] 27)).below) OK.out)
  show Calls Try.prog 21 #[.pointer (some ⟨q, 0, none⟩), .agg #[.int .i64 m.kind, .int .i64 m.src, .int .i64 m.dst, .int .i64 m.id, .int .i64 m.rev, .int .i64 m.epoch, .int .i64 m.slot, .bool m.flag, .slice A1 n1 c1, .slice A2 n2 c2, .slice A3 n3 c3, .slice A4 n4 c4]] w _
  go_enter Try.func21, Try.ntmps21
  go_wp2_with fail
  refine EN.out.mono ?_
  rintro e w1 ⟨A, n, c, rfl, hne, g⟩
  have H2 := Aside0.mk (H1.out.trans g)
  clear EN H1 g k0 k1 k2 k3 k4 k5 k6 k7 k8 k9 k10 k11
  by_cases hgood : MsgFits m ∧ (encMsg m).length ≤ 16384
  · obtain ⟨t1, t2⟩ := encGood_true hgood.1 hgood.2
    have hg := encGood_iff.2 hgood
    have E1 := Aside0.mk (EA.out.trans (if_pos hg))
    have GL := Aside0.mk hgood.2
    rw [t1] at hne H2
    rw [t2]
    have NE := Aside0.mk hne
    clear t1 t2 hg hgood hne
    go_wp2_with fail
    have hnl : n ≤ 16384 := by rw [NE.out]; exact GL.out
    refine (fseal_ok A n c (encMsg m) hnl (H2.out.atR (Kd.int .u8) 5 (.slice A n c)).row_C.2.1 (H2.out.atR (Kd.int .u8) 5 (.slice A n c)) (Ent.of_row (e := 5) (c := c))).mono ?_
    rintro e w2 ⟨B, nb, cb, rfl, h3⟩
    have hnb : nb = (recOf m).length := h3.row_C.1
    have hcb : nb ≤ cb := h3.row_C.2.1
    have H3 := Aside0.mk h3
    have HL := Aside0.mk (show nb ≤ 16392 by rw [hnb, recOf_len]; have := GL.out; omega)
    have NB := Aside0.mk hnb
    have q0 := H3.out.cellAt q 0 (v := .pointer (some ⟨p, 0, none⟩)) rfl
    have q1 := H3.out.cellAt q 1 (v := .int .i64 k) rfl
    clear H2 h3 hnb
    have HD := Aside0.mk (H3.out.at (disk p bytes dur room))
    by_cases hfit : room < ((bytes.length + (recOf m).length : Nat) : Int)
    · have E2 := Aside0.mk (E1.out.trans (if_pos hfit))
      have AP := Aside0.mk (fun g (hg : g = w2.heap.size) => append1g_full p bytes dur room (recOf m) B nb cb g (w := w2) hg HD.out hr hr2 NB.out hcb (Ent.of_row (e := 5) (c := cb)) (by have := HL.out; omega) (by rw [NB.out]; omega))
      clear hfit E1
      go_wp2_with fail
      refine (AP.out _ rfl).mono ?_
      rintro e w3 ⟨rfl, h4⟩
      have H4 := Aside0.mk h4
      clear AP HD H3 h4
      go_wp2_with fail
      go_ret
      refine ⟨by rw [E2.out]; rfl, ?_⟩
      rw [EK.out, EB.out, E2.out, if_neg (by decide), if_neg (by decide)]
      exact kx1 H4.out
    · have E2 := Aside0.mk (E1.out.trans (if_neg hfit))
      have AP := Aside0.mk (fun g (hg : g = w2.heap.size) => append1g_ok p bytes dur room (recOf m) B nb cb g (w := w2) hg HD.out hr hr2 NB.out hcb (Ent.of_row (e := 5) (c := cb)) (by rw [NB.out]; omega))
      clear hfit E1
      go_wp2_with fail
      refine (AP.out _ rfl).mono ?_
      rintro e w3 ⟨rfl, h4⟩
      have H4 := Aside0.mk h4
      have q2 := H4.out.cellAt q 1 (v := .int .i64 k) rfl
      have qf := H4.out.freeAt q 1
      have hw1 := (i64_in2 (k + 1) (by omega) (by omega)).1
      have hw2 := (i64_in2 (k + 1) (by omega) (by omega)).2
      have H5 := Aside0.mk (H4.out.setAt q 1 (.int .i64 (k + 1)))
      clear AP HD H3 h4 H4
      go_wp2_with fail
      go_ret
      refine ⟨by rw [E2.out]; rfl, ?_⟩
      rw [EK.out, EB.out, E2.out, if_pos rfl, if_pos rfl]
      exact kx2 H5.out
  · obtain ⟨t1, t2⟩ := encGood_false hgood
    have hg : ¬ encGood m = true := fun h => hgood (encGood_iff.1 h)
    have E1 := Aside0.mk (EA.out.trans (if_neg hg))
    rw [t2]
    clear t1 t2 hg hgood hne
    go_wp2_with fail
    go_ret
    refine ⟨by rw [E1.out]; rfl, ?_⟩
    rw [EK.out, EB.out, E1.out, if_neg (by decide), if_neg (by decide)]
    exact kx3 H2.out
noncomputable def addD (m : Msg) (bytes : List Int) (dur room : Int) : Int := if addErr m bytes.length room = 0 then ((addB m bytes room).length : Int) else dur
set_option maxHeartbeats 6400000 in
set_option maxRecDepth 100000 in
theorem lwrite_ok (m : Msg) (A1 A2 A3 A4 : Option Addr) (n1 n2 n3 n4 c1 c2 c3 c4 : Nat) (hC : MsgC w m (A1, n1, c1) (A2, n2, c2) (A3, n3, c3) (A4, n4, c4)) (hok : MsgOk m)
    (h : Hw w0 w (logP q p k * (disk p bytes dur room * F))) (hr : 0 ≤ room) (hr2 : room ≤ 1048576) (hk : 0 ≤ k) (hk2 : k ≤ 1000000000000) :
    Calls Try.prog 22 #[.pointer (some ⟨q, 0, none⟩), msgV m (A1, n1, c1) (A2, n2, c2) (A3, n3, c3) (A4, n4, c4)] w fun e w' =>
      e = .returned (.int .i64 (addErr m bytes.length room)) ∧ Hw w0 w' (logP q p (addK m bytes.length room k) * (disk p (addB m bytes room) (addD m bytes dur room) room * F)) := by
  have H1 := Aside0.mk (h.alloc (.cells #[.int .i64 m.kind, .int .i64 m.src, .int .i64 m.dst, .int .i64 m.id, .int .i64 m.rev, .int .i64 m.epoch, .int .i64 m.slot, .bool m.flag, .slice A1 n1 c1, .slice A2 n2 c2, .slice A3 n3 c3, .slice A4 n4 c4] 27))
  have AD := Aside0.mk (ladd_ok (F := blk w.heap.size (.cells #[.int .i64 m.kind, .int .i64 m.src, .int .i64 m.dst, .int .i64 m.id, .int .i64 m.rev, .int .i64 m.epoch, .int .i64 m.slot, .bool m.flag, .slice A1 n1 c1, .slice A2 n2 c2, .slice A3 n3 c3, .slice A4 n4 c4] 27) * F) m A1 A2 A3 A4 n1 n2 n3 n4 c1 c2 c3 c4 (hC.below ((Hw.start w).alloc (.cells #[.int .i64 m.kind, .int .i64 m.src, .int .i64 m.dst, .int .i64 m.id, .int .i64 m.rev, .int .i64 m.epoch, .int .i64 m.slot, .bool m.flag, .slice A1 n1 c1, .slice A2 n2 c2, .slice A3 n3 c3, .slice A4 n4 c4] 27)).below) hok (H1.out.as (by ac_rfl)) hr hr2 hk hk2)
  have ED := Aside0.mk (show addD m bytes dur room = if addErr m bytes.length room = 0 then ((addB m bytes room).length : Int) else dur from rfl)
  clear hC hok h
  have k0 := H1.out.cellAt w.heap.size 0 (v := .int .i64 m.kind) rfl
  have k1 := H1.out.cellAt w.heap.size 1 (v := .int .i64 m.src) rfl
  have k2 := H1.out.cellAt w.heap.size 2 (v := .int .i64 m.dst) rfl
  have k3 := H1.out.cellAt w.heap.size 3 (v := .int .i64 m.id) rfl
  have k4 := H1.out.cellAt w.heap.size 4 (v := .int .i64 m.rev) rfl
  have k5 := H1.out.cellAt w.heap.size 5 (v := .int .i64 m.epoch) rfl
  have k6 := H1.out.cellAt w.heap.size 6 (v := .int .i64 m.slot) rfl
  have k7 := H1.out.cellAt w.heap.size 7 (v := .bool m.flag) rfl
  have k8 := H1.out.cellAt w.heap.size 8 (v := .slice A1 n1 c1) rfl
  have k9 := H1.out.cellAt w.heap.size 9 (v := .slice A2 n2 c2) rfl
  have k10 := H1.out.cellAt w.heap.size 10 (v := .slice A3 n3 c3) rfl
  have k11 := H1.out.cellAt w.heap.size 11 (v := .slice A4 n4 c4) rfl
  show Calls Try.prog 22 #[.pointer (some ⟨q, 0, none⟩), .agg #[.int .i64 m.kind, .int .i64 m.src, .int .i64 m.dst, .int .i64 m.id, .int .i64 m.rev, .int .i64 m.epoch, .int .i64 m.slot, .bool m.flag, .slice A1 n1 c1, .slice A2 n2 c2, .slice A3 n3 c3, .slice A4 n4 c4]] w _
  go_enter Try.func22, Try.ntmps22
  go_wp2_with fail
  refine AD.out.mono ?_
  rintro e w1 ⟨rfl, h1⟩
  have H2 := Aside0.mk h1
  clear AD H1 h1 k0 k1 k2 k3 k4 k5 k6 k7 k8 k9 k10 k11
  by_cases hz : addErr m bytes.length room = 0
  · have q0 := H2.out.cellAt q 0 (v := .pointer (some ⟨p, 0, none⟩)) rfl
    have SY := Aside0.mk (sync_ok p (addB m bytes room) dur room (H2.out.at (disk p (addB m bytes room) dur room)))
    have E2 := Aside0.mk (ED.out.trans (if_pos hz))
    have HZ := Aside0.mk hz
    rw [hz]
    clear hz
    go_wp2_with fail
    refine SY.out.mono ?_
    rintro e w2 ⟨rfl, h2⟩
    have H3 := Aside0.mk h2
    clear h2 SY q0
    go_wp2_with fail
    go_ret
    refine ⟨by first | rfl | (rw [HZ.out]; rfl), ?_⟩
    rw [E2.out]
    exact kx4 H3.out
  · have E2 := Aside0.mk (ED.out.trans (if_neg hz))
    have hz2 : (addErr m bytes.length room == 0) = false := by simpa using hz
    clear hz
    go_wp2_with fail
    go_ret
    refine ⟨rfl, ?_⟩
    rw [E2.out]
    exact kx5 H2.out
end
end Go.Proofs.Ytckdkbjobipniaa
