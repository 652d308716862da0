/- CodeReads' walk. Printed by wip/gen/codereads.py. -/
import Derived.Test.YtckdkbjobipniaaCodeF
import Derived.Test.YtckdkbjobipniaaCC
import Derived.Test.YtckdkbjobipniaaCK
import Derived.Test.YtckdkbjobipniaaCodeRE
import Derived.Test.YtckdkbjobipniaaCodeRD
set_option linter.unusedVariables false
set_option linter.unusedSimpArgs false
namespace Go.Proofs.Ytckdkbjobipniaa
open Go.RowKit Go.Proofs.YtckdkbjobipniaaW.PrintWords Go.Proofs.YtckdkbjobipniaaW.PrintLast
theorem msg_sz {y : TM0} (h : sM0 y) : MsgSz (msgOf y) := by
  obtain ⟨a0, a1, a2, a3, a4, a5, a6, f, l1, l2, l3, l4⟩ := y
  obtain ⟨h0, h1, h2, h3, h4, h5, h6, _, ⟨b1, r1⟩, ⟨b2, r2⟩, ⟨b3, r3⟩, b4, r4⟩ := h
  exact ⟨fun x hx => (r2 x hx).2, fun x hx => (r3 x hx).2, fun x hx => (r4 x hx).1⟩
set_option maxHeartbeats 12800000 in
set_option maxRecDepth 100000 in
theorem codeReads_ok (m : Msg) (s1 s2 s3 s4 : Hdr) (B : Option Addr) (nb cb : Nat) (bs : List Int) (w : World) (hC : MsgC w m s1 s2 s3 s4) (hok : MsgOk m) (hsz : MsgSz m) (hB : (Kd.int .u8).C w B nb bs) (hcb : nb ≤ cb) (hbs : bytes bs) (hbl : bs.length ≤ 140737488351232) :
    Calls Try.prog 3 #[msgV m s1 s2 s3 s4, .slice B nb cb] w fun e w' => e = .returned (.bool true) ∧ Below w.heap.size w w' := by
  obtain ⟨A1, n1, c1⟩ := s1
  obtain ⟨A2, n2, c2⟩ := s2
  obtain ⟨A3, n3, c3⟩ := s3
  obtain ⟨A4, n4, c4⟩ := s4
  have MC := Aside0.mk hC
  have OK := Aside0.mk hok
  have SZ := Aside0.mk hsz
  have CB := Aside0.mk hB
  have BB := Aside0.mk hbs
  have BL := Aside0.mk hbl
  have H1 := Aside0.mk ((Hw.start w).alloc (.cells #[.int .i64 m.kind, .int .i64 m.src, .int .i64 m.dst, .int .i64 m.id, .int .i64 m.rev, .int .i64 m.epoch, .int .i64 m.slot, .bool m.flag, .slice A1 n1 c1, .slice A2 n2 c2, .slice A3 n3 c3, .slice A4 n4 c4] 27))
  clear hC hok hsz hB hbs hbl
  show Calls Try.prog 3 #[.agg #[.int .i64 m.kind, .int .i64 m.src, .int .i64 m.dst, .int .i64 m.id, .int .i64 m.rev, .int .i64 m.epoch, .int .i64 m.slot, .bool m.flag, .slice A1 n1 c1, .slice A2 n2 c2, .slice A3 n3 c3, .slice A4 n4 c4], .slice B nb cb] w _
  go_enter Try.func3, Try.ntmps3
  go_wp2_with fail
  refine (cawake_ok _).mono ?_
  rintro e w1 ⟨rfl, h1⟩
  have H2 := Aside0.mk (H1.out.from_below h1)
  clear H1 h1
  have k0 := H2.out.cellAt w.heap.size 0 (v := .int .i64 m.kind) rfl
  have k1 := H2.out.cellAt w.heap.size 1 (v := .int .i64 m.src) rfl
  have k2 := H2.out.cellAt w.heap.size 2 (v := .int .i64 m.dst) rfl
  have k3 := H2.out.cellAt w.heap.size 3 (v := .int .i64 m.id) rfl
  have k4 := H2.out.cellAt w.heap.size 4 (v := .int .i64 m.rev) rfl
  have k5 := H2.out.cellAt w.heap.size 5 (v := .int .i64 m.epoch) rfl
  have k6 := H2.out.cellAt w.heap.size 6 (v := .int .i64 m.slot) rfl
  have k7 := H2.out.cellAt w.heap.size 7 (v := .bool m.flag) rfl
  have k8 := H2.out.cellAt w.heap.size 8 (v := .slice A1 n1 c1) rfl
  have k9 := H2.out.cellAt w.heap.size 9 (v := .slice A2 n2 c2) rfl
  have k10 := H2.out.cellAt w.heap.size 10 (v := .slice A3 n3 c3) rfl
  have k11 := H2.out.cellAt w.heap.size 11 (v := .slice A4 n4 c4) rfl
  have EN := Aside0.mk (encode_ok m A1 A2 A3 A4 n1 n2 n3 n4 c1 c2 c3 c4 w1 (MC.out.below H2.out.below) OK.out)
  go_wp2_with fail
  refine EN.out.mono ?_
  rintro e w2 ⟨A, n, c, rfl, hne, g⟩
  have H3 := Aside0.mk (H2.out.trans g)
  clear k0 k1 k2 k3 k4 k5 k6 k7 k8 k9 k10 k11 H2 EN g hne
  have k0 := H3.out.cellAt w.heap.size 0 (v := .int .i64 m.kind) rfl
  have k1 := H3.out.cellAt w.heap.size 1 (v := .int .i64 m.src) rfl
  have k2 := H3.out.cellAt w.heap.size 2 (v := .int .i64 m.dst) rfl
  have k3 := H3.out.cellAt w.heap.size 3 (v := .int .i64 m.id) rfl
  have k4 := H3.out.cellAt w.heap.size 4 (v := .int .i64 m.rev) rfl
  have k5 := H3.out.cellAt w.heap.size 5 (v := .int .i64 m.epoch) rfl
  have k6 := H3.out.cellAt w.heap.size 6 (v := .int .i64 m.slot) rfl
  have k7 := H3.out.cellAt w.heap.size 7 (v := .bool m.flag) rfl
  have k8 := H3.out.cellAt w.heap.size 8 (v := .slice A1 n1 c1) rfl
  have k9 := H3.out.cellAt w.heap.size 9 (v := .slice A2 n2 c2) rfl
  have k10 := H3.out.cellAt w.heap.size 10 (v := .slice A3 n3 c3) rfl
  have k11 := H3.out.cellAt w.heap.size 11 (v := .slice A4 n4 c4) rfl
  have ER := Aside0.mk (refenc_ok m A1 A2 A3 A4 n1 n2 n3 n4 c1 c2 c3 c4 w2 (MC.out.below H3.out.below) OK.out SZ.out)
  go_wp2_with fail
  refine ER.out.mono ?_
  rintro e w3 ⟨rfl, hbel⟩
  have H4 := Aside0.mk (H3.out.from_below hbel)
  clear k0 k1 k2 k3 k4 k5 k6 k7 k8 k9 k10 k11 H3 ER hbel
  have DB := Aside0.mk (decode2_ok B nb cb bs w3 (Kd.C_below CB.out H4.out.below) hcb BB.out)
  obtain ⟨sw, hsw⟩ : ∃ s, s = strOfNums (encTxt m) := ⟨_, rfl⟩
  rw [← hsw]
  have SW := Aside0.mk hsw
  clear hsw
  go_wp2_with fail
  refine DB.out.mono ?_
  rintro e w4 ⟨z, r1, r2, r3, r4, kk, hr, hh, rfl, g⟩
  obtain ⟨T1, p1, d1⟩ := r1
  obtain ⟨T2, p2, d2⟩ := r2
  obtain ⟨T3, p3, d3⟩ := r3
  obtain ⟨T4, p4, d4⟩ := r4
  have HR := Aside0.mk hr
  have HH := Aside0.mk hh
  have H6 := Aside0.mk ((H4.out.trans g).alloc (.cells #[.int .i64 0, .int .i64 0, .int .i64 0, .int .i64 0, .int .i64 0, .int .i64 0, .int .i64 0, .bool false, .slice none 0 0, .slice none 0 0, .slice none 0 0, .slice none 0 0] 27))
  clear hr hh g DB H4
  go_wp2_with (refine Hw.store_row rfl 27 (.tmp 9) (.tmp 28) rfl w4.heap.size #[.int .i64 z.kind, .int .i64 z.src, .int .i64 z.dst, .int .i64 z.id, .int .i64 z.rev, .int .i64 z.epoch, .int .i64 z.slot, .bool z.flag, .slice T1 p1 d1, .slice T2 p2 d2, .slice T3 p3 d3, .slice T4 p4 d4] rfl rfl H6.out (by kernel_rfl) (by rfl) (by first | kernel_rfl | rfl | simp [Value.oneCell']) ?_; intro w5 H7; have cB : (convert 28 9 (.slice B nb cb)).run Try.prog w5 = .ok (.string (strOfNums bs)) w5 := Kd.C_string Try.underlying28 Try.underlying5 Try.underlying9 (Kd.C_below CB.out H7.out.below))
  clear cB
  refine (refdec_ok bs BB.out BL.out w5).mono ?_
  rintro e w6 ⟨z', r1, r2, r3, r4, kk', hr', hh', rfl, g⟩
  obtain ⟨e1, e2⟩ : z = z' ∧ kk = kk' := by have h := HR.out.symm.trans hr'; injection h with h1 h2; exact ⟨h1, h2⟩
  subst e1
  subst e2
  obtain ⟨U1, q1, f1⟩ := r1
  obtain ⟨U2, q2, f2⟩ := r2
  obtain ⟨U3, q3, f3⟩ := r3
  obtain ⟨U4, q4, f4⟩ := r4
  have HU := Aside0.mk hh'
  have H8 := Aside0.mk ((H7.out.trans g).alloc (.cells #[.int .i64 0, .int .i64 0, .int .i64 0, .int .i64 0, .int .i64 0, .int .i64 0, .int .i64 0, .bool false, .slice none 0 0, .slice none 0 0, .slice none 0 0, .slice none 0 0] 27))
  clear hr' hh' g H7 H6
  go_wp2_with (refine Hw.store_row rfl 27 (.tmp 11) (.tmp 34) rfl w6.heap.size #[.int .i64 z.kind, .int .i64 z.src, .int .i64 z.dst, .int .i64 z.id, .int .i64 z.rev, .int .i64 z.epoch, .int .i64 z.slot, .bool z.flag, .slice U1 q1 f1, .slice U2 q2 f2, .slice U3 q3 f3, .slice U4 q4 f4] rfl rfl H8.out (by kernel_rfl) (by rfl) (by first | kernel_rfl | rfl | simp [Value.oneCell']) ?_; intro w7 H9; have cA := ((H9.out.at (row (Kd.int .u8) 5 (.slice A n c) (encTxt m))).row_string Try.underlying28 Try.underlying5 Try.underlying9); rw [← SW.out] at cA; have y0 := H9.out.cellAt w4.heap.size 0 (v := .int .i64 z.kind) rfl; have y1 := H9.out.cellAt w4.heap.size 1 (v := .int .i64 z.src) rfl; have y2 := H9.out.cellAt w4.heap.size 2 (v := .int .i64 z.dst) rfl; have y3 := H9.out.cellAt w4.heap.size 3 (v := .int .i64 z.id) rfl; have y4 := H9.out.cellAt w4.heap.size 4 (v := .int .i64 z.rev) rfl; have y5 := H9.out.cellAt w4.heap.size 5 (v := .int .i64 z.epoch) rfl; have y6 := H9.out.cellAt w4.heap.size 6 (v := .int .i64 z.slot) rfl; have y7 := H9.out.cellAt w4.heap.size 7 (v := .bool z.flag) rfl; have y8 := H9.out.cellAt w4.heap.size 8 (v := .slice T1 p1 d1) rfl; have y9 := H9.out.cellAt w4.heap.size 9 (v := .slice T2 p2 d2) rfl; have y10 := H9.out.cellAt w4.heap.size 10 (v := .slice T3 p3 d3) rfl; have y11 := H9.out.cellAt w4.heap.size 11 (v := .slice T4 p4 d4) rfl; have x0 := H9.out.cellAt w6.heap.size 0 (v := .int .i64 z.kind) rfl; have x1 := H9.out.cellAt w6.heap.size 1 (v := .int .i64 z.src) rfl; have x2 := H9.out.cellAt w6.heap.size 2 (v := .int .i64 z.dst) rfl; have x3 := H9.out.cellAt w6.heap.size 3 (v := .int .i64 z.id) rfl; have x4 := H9.out.cellAt w6.heap.size 4 (v := .int .i64 z.rev) rfl; have x5 := H9.out.cellAt w6.heap.size 5 (v := .int .i64 z.epoch) rfl; have x6 := H9.out.cellAt w6.heap.size 6 (v := .int .i64 z.slot) rfl; have x7 := H9.out.cellAt w6.heap.size 7 (v := .bool z.flag) rfl; have x8 := H9.out.cellAt w6.heap.size 8 (v := .slice U1 q1 f1) rfl; have x9 := H9.out.cellAt w6.heap.size 9 (v := .slice U2 q2 f2) rfl; have x10 := H9.out.cellAt w6.heap.size 10 (v := .slice U3 q3 f3) rfl; have x11 := H9.out.cellAt w6.heap.size 11 (v := .slice U4 q4 f4) rfl)
  refine (same_ok z.kind z.kind z.src z.src z.dst z.dst z.id z.id z.rev z.rev z.epoch z.epoch z.slot z.slot z.flag z.flag z.nodes z.nodes z.muts z.muts z.pre z.pre z.rows z.rows T1 T2 T3 T4 U1 U2 U3 U4 p1 p2 p3 p4 d1 d2 d3 d4 q1 q2 q3 q4 f1 f2 f3 f4 w7 (msgC_of HH.out (H9.out.at (listsP z.nodes z.muts z.pre z.rows (T1, p1, d1) (T2, p2, d2) (T3, p3, d3) (T4, p4, d4)))) (msgC_of HU.out (H9.out.at (listsP z.nodes z.muts z.pre z.rows (U1, q1, f1) (U2, q2, f2) (U3, q3, f3) (U4, q4, f4))))).mono ?_
  rintro e w8 ⟨bb, rfl, hbb, hb2⟩
  obtain rfl : bb = true := hbb.2 rfl
  have B8 := Aside0.mk (H9.out.below.trans (hb2.mono H9.out.below.size))
  clear hbb hb2
  go_wp2_with fail
  go_ret
  exact ⟨rfl, B8.out⟩
theorem codeReads_walk (m : Msg) (s1 s2 s3 s4 : Hdr) (B : Option Addr) (cb : Nat) (bs : List Int) (w : World) (hC : MsgC w m s1 s2 s3 s4) (hok : MsgOk m) (_ : MsgLe m s1 s2 s3 s4) (hsz : MsgSz m)
    (hB : (Kd.int .u8).C w B bs.length bs) (hcb : bs.length ≤ cb) (sb : bs.length * 1 ≤ 140737488351232 ∧ ∀ x ∈ bs, (Lit.int .u8 x).wf = true) :
    Calls Try.prog 3 #[msgV m s1 s2 s3 s4, .slice B bs.length cb] w fun e w' => e = .returned (.bool true) ∧ Below w.heap.size w w' :=
  codeReads_ok m s1 s2 s3 s4 B _ cb bs w hC hok hsz hB hcb (bytes_wf sb.2) (by have := sb.1; omega)
end Go.Proofs.Ytckdkbjobipniaa
