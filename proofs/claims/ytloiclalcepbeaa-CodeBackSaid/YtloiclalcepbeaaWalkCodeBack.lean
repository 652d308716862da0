/- CodeBack's walk. Printed by wip/gen/codeback.py. -/
import Derived.Test.YtloiclalcepbeaaCodeF
import Derived.Test.YtloiclalcepbeaaCodeA
import Derived.Test.YtloiclalcepbeaaCodeD
import Derived.Test.YtloiclalcepbeaaCodeK
set_option linter.unusedVariables false
set_option linter.unusedSimpArgs false
namespace Go.Proofs.Ytloiclalcepbeaa
open Go.RowKit Go.Proofs.YtloiclalcepbeaaW.PrintWords Go.Proofs.YtloiclalcepbeaaW.PrintLast
set_option maxHeartbeats 12800000 in
set_option maxRecDepth 100000 in
theorem codeBack_ok (m : Msg) (s1 s2 s3 s4 : Hdr) (B : Option Addr) (nb cb : Nat) (bs : List Int) (w : World) (hC : MsgC w m s1 s2 s3 s4) (hok : MsgOk m) (hB : (Kd.int .u8).C w B nb bs) (hcb : nb ≤ cb) (hbs : bytes bs) :
    Calls Try.prog 10 #[msgV m s1 s2 s3 s4, .slice B nb cb] w fun e w' => e = .returned (.bool true) ∧ Below w.heap.size w w' := by
  obtain ⟨A1, n1, c1⟩ := s1
  obtain ⟨A2, n2, c2⟩ := s2
  obtain ⟨A3, n3, c3⟩ := s3
  obtain ⟨A4, n4, c4⟩ := s4
  have MC := Aside0.mk hC
  have OK := Aside0.mk hok
  have CB := Aside0.mk hB
  have BB := Aside0.mk hbs
  have H1 := Aside0.mk ((Hw.start w).alloc (.cells #[.int .i64 m.kind, .int .i64 m.src, .int .i64 m.dst, .int .i64 m.id, .int .i64 m.rev, .int .i64 m.epoch, .int .i64 m.slot, .bool m.flag, .slice A1 n1 c1, .slice A2 n2 c2, .slice A3 n3 c3, .slice A4 n4 c4] 53))
  clear hC hok hB hbs
  show Calls Try.prog 10 #[.agg #[.int .i64 m.kind, .int .i64 m.src, .int .i64 m.dst, .int .i64 m.id, .int .i64 m.rev, .int .i64 m.epoch, .int .i64 m.slot, .bool m.flag, .slice A1 n1 c1, .slice A2 n2 c2, .slice A3 n3 c3, .slice A4 n4 c4], .slice B nb cb] w _
  go_enter Try.func10, Try.ntmps10
  go_wp2_with fail
  refine (cawake_ok _).mono ?_
  rintro e w1 ⟨rfl, h1⟩
  have H2 := Aside0.mk (H1.out.from_below h1)
  clear H1 h1
  have k0 := H2.out.cellAt w.heap.size 0 (v := .int .i64 m.kind) rfl
  have k1 := H2.out.cellAt w.heap.size 1 (v := .int .i64 m.src) rfl
  have k2 := H2.out.cellAt w.heap.size 2 (v := .int .i64 m.dst) rfl
  have k3 := H2.out.cellAt w.heap.size 3 (v := .int .i64 m.id) rfl
  have k4 := H2.out.cellAt w.heap.size 4 (v := .int .i64 m.rev) rfl
  have k5 := H2.out.cellAt w.heap.size 5 (v := .int .i64 m.epoch) rfl
  have k6 := H2.out.cellAt w.heap.size 6 (v := .int .i64 m.slot) rfl
  have k7 := H2.out.cellAt w.heap.size 7 (v := .bool m.flag) rfl
  have k8 := H2.out.cellAt w.heap.size 8 (v := .slice A1 n1 c1) rfl
  have k9 := H2.out.cellAt w.heap.size 9 (v := .slice A2 n2 c2) rfl
  have k10 := H2.out.cellAt w.heap.size 10 (v := .slice A3 n3 c3) rfl
  have k11 := H2.out.cellAt w.heap.size 11 (v := .slice A4 n4 c4) rfl
  have EN := Aside0.mk (encode_ok m A1 A2 A3 A4 n1 n2 n3 n4 c1 c2 c3 c4 w1 (MC.out.below H2.out.below) OK.out)
  go_wp2_with fail
  refine EN.out.mono ?_
  rintro e w2 ⟨A, n, c, rfl, hne, g⟩
  have H3 := Aside0.mk (H2.out.from_below g.below)
  clear k0 k1 k2 k3 k4 k5 k6 k7 k8 k9 k10 k11 H2 EN
  by_cases hgood : MsgFits m ∧ (encMsg m).length ≤ 16384
  · obtain ⟨t1, t2⟩ := encGood_true hgood.1 hgood.2
    rw [t1] at hne g
    rw [t2]
    have FT := Aside0.mk hgood
    have DE := Aside0.mk (decode_ok A n c (encMsg m) w2 g.row_C.2.2 g.row_C.2.1 (encMsg_bytes m))
    clear hgood t1 t2 hne g
    go_wp2_with fail
    refine DE.out.mono ?_
    rintro e w3 (⟨m', r1, r2, r3, r4, hr, hh, rfl, g⟩ | ⟨cc, hr, _⟩)
    · rw [dec_enc m OK.out FT.out.1 FT.out.2] at hr
      obtain rfl : m = m' := by injection hr
      obtain ⟨T1, p1, d1⟩ := r1
      obtain ⟨T2, p2, d2⟩ := r2
      obtain ⟨T3, p3, d3⟩ := r3
      obtain ⟨T4, p4, d4⟩ := r4
      have H4 := Aside0.mk (g.alloc (.cells #[.int .i64 0, .int .i64 0, .int .i64 0, .int .i64 0, .int .i64 0, .int .i64 0, .int .i64 0, .bool false, .slice none 0 0, .slice none 0 0, .slice none 0 0, .slice none 0 0] 53))
      have HH := Aside0.mk hh
      have H3' := Aside0.mk (H3.out)
      clear hr hh H3 DE g
      go_wp2_with (refine Hw.store_row rfl 53 (.tmp 7) (.tmp 23) rfl w3.heap.size #[.int .i64 m.kind, .int .i64 m.src, .int .i64 m.dst, .int .i64 m.id, .int .i64 m.rev, .int .i64 m.epoch, .int .i64 m.slot, .bool m.flag, .slice T1 p1 d1, .slice T2 p2 d2, .slice T3 p3 d3, .slice T4 p4 d4] rfl rfl H4.out (by kernel_rfl) (by rfl) (by first | kernel_rfl | rfl | simp [Value.oneCell']) ?_; intro w4 H5; have H6 := Aside0.mk (H3'.out.from_below H5.out.below); have k0 := H6.out.cellAt w.heap.size 0 (v := .int .i64 m.kind) rfl; have k1 := H6.out.cellAt w.heap.size 1 (v := .int .i64 m.src) rfl; have k2 := H6.out.cellAt w.heap.size 2 (v := .int .i64 m.dst) rfl; have k3 := H6.out.cellAt w.heap.size 3 (v := .int .i64 m.id) rfl; have k4 := H6.out.cellAt w.heap.size 4 (v := .int .i64 m.rev) rfl; have k5 := H6.out.cellAt w.heap.size 5 (v := .int .i64 m.epoch) rfl; have k6 := H6.out.cellAt w.heap.size 6 (v := .int .i64 m.slot) rfl; have k7 := H6.out.cellAt w.heap.size 7 (v := .bool m.flag) rfl; have k8 := H6.out.cellAt w.heap.size 8 (v := .slice A1 n1 c1) rfl; have k9 := H6.out.cellAt w.heap.size 9 (v := .slice A2 n2 c2) rfl; have k10 := H6.out.cellAt w.heap.size 10 (v := .slice A3 n3 c3) rfl; have k11 := H6.out.cellAt w.heap.size 11 (v := .slice A4 n4 c4) rfl; have y0 := H5.out.cellAt w3.heap.size 0 (v := .int .i64 m.kind) rfl; have y1 := H5.out.cellAt w3.heap.size 1 (v := .int .i64 m.src) rfl; have y2 := H5.out.cellAt w3.heap.size 2 (v := .int .i64 m.dst) rfl; have y3 := H5.out.cellAt w3.heap.size 3 (v := .int .i64 m.id) rfl; have y4 := H5.out.cellAt w3.heap.size 4 (v := .int .i64 m.rev) rfl; have y5 := H5.out.cellAt w3.heap.size 5 (v := .int .i64 m.epoch) rfl; have y6 := H5.out.cellAt w3.heap.size 6 (v := .int .i64 m.slot) rfl; have y7 := H5.out.cellAt w3.heap.size 7 (v := .bool m.flag) rfl; have y8 := H5.out.cellAt w3.heap.size 8 (v := .slice T1 p1 d1) rfl; have y9 := H5.out.cellAt w3.heap.size 9 (v := .slice T2 p2 d2) rfl; have y10 := H5.out.cellAt w3.heap.size 10 (v := .slice T3 p3 d3) rfl; have y11 := H5.out.cellAt w3.heap.size 11 (v := .slice T4 p4 d4) rfl)
      have SM := Aside0.mk (same_ok m.kind m.kind m.src m.src m.dst m.dst m.id m.id m.rev m.rev m.epoch m.epoch m.slot m.slot m.flag m.flag m.nodes m.nodes m.muts m.muts m.pre m.pre m.rows m.rows T1 T2 T3 T4 A1 A2 A3 A4 p1 p2 p3 p4 d1 d2 d3 d4 n1 n2 n3 n4 c1 c2 c3 c4 w4 (msgC_of HH.out H5.out.right) (MC.out.below H6.out.below))
      refine SM.out.mono ?_
      rintro e w5 ⟨bb, rfl, hbb, hbel⟩
      obtain rfl : bb = true := hbb.2 rfl
      have H7 := Aside0.mk (H6.out.from_below hbel)
      clear hbb hbel SM H3' H5 H6 H4 HH k0 k1 k2 k3 k4 k5 k6 k7 k8 k9 k10 k11 y0 y1 y2 y3 y4 y5 y6 y7 y8 y9 y10 y11
      have DB := Aside0.mk (decode_ok B nb cb bs _ (Kd.C_below CB.out H7.out.below) hcb BB.out)
      have BE := Aside0.mk H7.out.below
      go_wp2_with fail
      refine DB.out.mono ?_
      rintro e w6 (⟨z, r1, r2, r3, r4, hr, hh, rfl, g⟩ | ⟨cc, hr, hcc, rfl, hbel⟩)
      · obtain ⟨T1, p1, d1⟩ := r1
        obtain ⟨T2, p2, d2⟩ := r2
        obtain ⟨T3, p3, d3⟩ := r3
        obtain ⟨T4, p4, d4⟩ := r4
        have DI := Aside0.mk (dec_inv bs z BB.out hr)
        have B6 := Aside0.mk (BE.out.trans (g.below.mono BE.out.size))
        have HH := Aside0.mk hh
        have H8 := Aside0.mk (g.alloc (.cells #[.int .i64 0, .int .i64 0, .int .i64 0, .int .i64 0, .int .i64 0, .int .i64 0, .int .i64 0, .bool false, .slice none 0 0, .slice none 0 0, .slice none 0 0, .slice none 0 0] 53))
        clear hr hh g
        go_wp2_with (refine Hw.store_row rfl 53 (.tmp 9) (.tmp 49) rfl w6.heap.size #[.int .i64 z.kind, .int .i64 z.src, .int .i64 z.dst, .int .i64 z.id, .int .i64 z.rev, .int .i64 z.epoch, .int .i64 z.slot, .bool z.flag, .slice T1 p1 d1, .slice T2 p2 d2, .slice T3 p3 d3, .slice T4 p4 d4] rfl rfl H8.out (by kernel_rfl) (by rfl) (by first | kernel_rfl | rfl | simp [Value.oneCell']) ?_; intro w7 H9; have y0 := H9.out.cellAt w6.heap.size 0 (v := .int .i64 z.kind) rfl; have y1 := H9.out.cellAt w6.heap.size 1 (v := .int .i64 z.src) rfl; have y2 := H9.out.cellAt w6.heap.size 2 (v := .int .i64 z.dst) rfl; have y3 := H9.out.cellAt w6.heap.size 3 (v := .int .i64 z.id) rfl; have y4 := H9.out.cellAt w6.heap.size 4 (v := .int .i64 z.rev) rfl; have y5 := H9.out.cellAt w6.heap.size 5 (v := .int .i64 z.epoch) rfl; have y6 := H9.out.cellAt w6.heap.size 6 (v := .int .i64 z.slot) rfl; have y7 := H9.out.cellAt w6.heap.size 7 (v := .bool z.flag) rfl; have y8 := H9.out.cellAt w6.heap.size 8 (v := .slice T1 p1 d1) rfl; have y9 := H9.out.cellAt w6.heap.size 9 (v := .slice T2 p2 d2) rfl; have y10 := H9.out.cellAt w6.heap.size 10 (v := .slice T3 p3 d3) rfl; have y11 := H9.out.cellAt w6.heap.size 11 (v := .slice T4 p4 d4) rfl)
        have EN := Aside0.mk (encode_ok z T1 T2 T3 T4 p1 p2 p3 p4 d1 d2 d3 d4 w7 (msgC_of HH.out H9.out.right) DI.out.1)
        have B7 := Aside0.mk (BE.out.trans (H9.out.below.mono BE.out.size))
        refine EN.out.mono ?_
        rintro e w8 ⟨D, nd, cd, rfl, hne, g2⟩
        obtain ⟨u1, u2⟩ := encGood_true DI.out.2.1 (by rw [DI.out.2.2.1]; exact DI.out.2.2.2)
        rw [u1, DI.out.2.2.1] at g2
        rw [u2]
        have B8 := Aside0.mk (B7.out.trans (g2.below.mono B7.out.size))
        obtain ⟨s, hs⟩ : ∃ s, s = strOfNums bs := ⟨_, rfl⟩
        have cA := g2.row_string Try.underlying35 Try.underlying5 Try.underlying9
        have cB : (convert 35 9 (.slice B nb cb)).run Try.prog w8 = .ok (.string (strOfNums bs)) w8 := Kd.C_string Try.underlying35 Try.underlying5 Try.underlying9 (Kd.C_below CB.out B8.out)
        rw [← hs] at cA cB
        clear u1 u2 hne
        go_wp2_with fail
        go_ret
        exact ⟨rfl, B8.out⟩
      · have B6 := Aside0.mk (BE.out.trans (hbel.mono BE.out.size))
        have dne : (cc != 0) = true := by simpa using hcc
        have H8 := Aside0.mk ((Hw.start w6).alloc (.cells #[.int .i64 0, .int .i64 0, .int .i64 0, .int .i64 0, .int .i64 0, .int .i64 0, .int .i64 0, .bool false, .slice none 0 0, .slice none 0 0, .slice none 0 0, .slice none 0 0] 53))
        clear hr hbel
        go_wp2_with (refine Hw.store_row rfl 53 (.tmp 9) (.tmp 49) rfl w6.heap.size #[.int .i64 0, .int .i64 0, .int .i64 0, .int .i64 0, .int .i64 0, .int .i64 0, .int .i64 0, .bool false, .slice none 0 0, .slice none 0 0, .slice none 0 0, .slice none 0 0] rfl rfl H8.out (by kernel_rfl) (by rfl) (by first | kernel_rfl | rfl | simp [Value.oneCell']) ?_; intro w7 H9; have y0 := H9.out.cellAt w6.heap.size 0 (v := .int .i64 0) rfl; have y1 := H9.out.cellAt w6.heap.size 1 (v := .int .i64 0) rfl; have y2 := H9.out.cellAt w6.heap.size 2 (v := .int .i64 0) rfl; have y3 := H9.out.cellAt w6.heap.size 3 (v := .int .i64 0) rfl; have y4 := H9.out.cellAt w6.heap.size 4 (v := .int .i64 0) rfl; have y5 := H9.out.cellAt w6.heap.size 5 (v := .int .i64 0) rfl; have y6 := H9.out.cellAt w6.heap.size 6 (v := .int .i64 0) rfl; have y7 := H9.out.cellAt w6.heap.size 7 (v := .bool false) rfl; have y8 := H9.out.cellAt w6.heap.size 8 (v := .slice none 0 0) rfl; have y9 := H9.out.cellAt w6.heap.size 9 (v := .slice none 0 0) rfl; have y10 := H9.out.cellAt w6.heap.size 10 (v := .slice none 0 0) rfl; have y11 := H9.out.cellAt w6.heap.size 11 (v := .slice none 0 0) rfl)
        have B7 := Aside0.mk (B6.out.trans (H9.out.below.mono B6.out.size))
        have SZ := Aside0.mk (same_ok 0 0 0 0 0 0 0 0 0 0 0 0 0 0 false false [] [] [] [] [] [] [] [] none none none none none none none none 0 0 0 0 0 0 0 0 0 0 0 0 0 0 0 0 w7 (MsgC.mk (s1 := nilH) (s2 := nilH) (s3 := nilH) (s4 := nilH) (Kd.C_nil _ _) (Kd.C_nil _ _) (Kd.C_nil _ _) (Kd.C_nil _ _)) (MsgC.mk (s1 := nilH) (s2 := nilH) (s3 := nilH) (s4 := nilH) (Kd.C_nil _ _) (Kd.C_nil _ _) (Kd.C_nil _ _) (Kd.C_nil _ _)))
        refine SZ.out.mono ?_
        rintro e w8 ⟨bb, rfl, hbb, hb2⟩
        obtain rfl : bb = true := hbb.2 rfl
        have B8 := Aside0.mk (B7.out.trans (hb2.mono B7.out.size))
        clear hbb hb2
        go_wp2_with fail
        go_ret
        exact ⟨rfl, B8.out⟩
    · rw [dec_enc m OK.out FT.out.1 FT.out.2] at hr; cases hr
  · obtain ⟨t1, t2⟩ := encGood_false hgood
    rw [t1] at hne g
    rw [t2]
    obtain rfl : n = 0 := hne
    have DE := Aside0.mk (decode_ok A 0 c [] w2 g.row_C.2.2 g.row_C.2.1 (fun x hx => by cases hx))
    clear hgood t1 t2 g
    go_wp2_with fail
    refine DE.out.mono ?_
    rintro e w3 (⟨m', r1, r2, r3, r4, hr, _⟩ | ⟨cc, hr, hcc, rfl, hbel⟩)
    · cases hr
    · have H6 := Aside0.mk ((H3.out.from_below hbel).alloc (.cells #[.int .i64 0, .int .i64 0, .int .i64 0, .int .i64 0, .int .i64 0, .int .i64 0, .int .i64 0, .bool false, .slice none 0 0, .slice none 0 0, .slice none 0 0, .slice none 0 0] 53))
      clear hr H3 DE hbel
      go_wp2_with (refine Hw.store_row rfl 53 (.tmp 7) (.tmp 23) rfl w3.heap.size #[.int .i64 0, .int .i64 0, .int .i64 0, .int .i64 0, .int .i64 0, .int .i64 0, .int .i64 0, .bool false, .slice none 0 0, .slice none 0 0, .slice none 0 0, .slice none 0 0] rfl rfl H6.out (by kernel_rfl) (by rfl) (by first | kernel_rfl | rfl | simp [Value.oneCell']) ?_; intro w5 H7)
      have DB := Aside0.mk (decode_ok B nb cb bs _ (Kd.C_below CB.out H7.out.below) hcb BB.out)
      have BE := Aside0.mk H7.out.below
      go_wp2_with fail
      refine DB.out.mono ?_
      rintro e w6 (⟨z, r1, r2, r3, r4, hr, hh, rfl, g⟩ | ⟨cc, hr, hcc, rfl, hbel⟩)
      · obtain ⟨T1, p1, d1⟩ := r1
        obtain ⟨T2, p2, d2⟩ := r2
        obtain ⟨T3, p3, d3⟩ := r3
        obtain ⟨T4, p4, d4⟩ := r4
        have DI := Aside0.mk (dec_inv bs z BB.out hr)
        have B6 := Aside0.mk (BE.out.trans (g.below.mono BE.out.size))
        have HH := Aside0.mk hh
        have H8 := Aside0.mk (g.alloc (.cells #[.int .i64 0, .int .i64 0, .int .i64 0, .int .i64 0, .int .i64 0, .int .i64 0, .int .i64 0, .bool false, .slice none 0 0, .slice none 0 0, .slice none 0 0, .slice none 0 0] 53))
        clear hr hh g
        go_wp2_with (refine Hw.store_row rfl 53 (.tmp 9) (.tmp 49) rfl w6.heap.size #[.int .i64 z.kind, .int .i64 z.src, .int .i64 z.dst, .int .i64 z.id, .int .i64 z.rev, .int .i64 z.epoch, .int .i64 z.slot, .bool z.flag, .slice T1 p1 d1, .slice T2 p2 d2, .slice T3 p3 d3, .slice T4 p4 d4] rfl rfl H8.out (by kernel_rfl) (by rfl) (by first | kernel_rfl | rfl | simp [Value.oneCell']) ?_; intro w7 H9; have y0 := H9.out.cellAt w6.heap.size 0 (v := .int .i64 z.kind) rfl; have y1 := H9.out.cellAt w6.heap.size 1 (v := .int .i64 z.src) rfl; have y2 := H9.out.cellAt w6.heap.size 2 (v := .int .i64 z.dst) rfl; have y3 := H9.out.cellAt w6.heap.size 3 (v := .int .i64 z.id) rfl; have y4 := H9.out.cellAt w6.heap.size 4 (v := .int .i64 z.rev) rfl; have y5 := H9.out.cellAt w6.heap.size 5 (v := .int .i64 z.epoch) rfl; have y6 := H9.out.cellAt w6.heap.size 6 (v := .int .i64 z.slot) rfl; have y7 := H9.out.cellAt w6.heap.size 7 (v := .bool z.flag) rfl; have y8 := H9.out.cellAt w6.heap.size 8 (v := .slice T1 p1 d1) rfl; have y9 := H9.out.cellAt w6.heap.size 9 (v := .slice T2 p2 d2) rfl; have y10 := H9.out.cellAt w6.heap.size 10 (v := .slice T3 p3 d3) rfl; have y11 := H9.out.cellAt w6.heap.size 11 (v := .slice T4 p4 d4) rfl)
        have EN := Aside0.mk (encode_ok z T1 T2 T3 T4 p1 p2 p3 p4 d1 d2 d3 d4 w7 (msgC_of HH.out H9.out.right) DI.out.1)
        have B7 := Aside0.mk (BE.out.trans (H9.out.below.mono BE.out.size))
        refine EN.out.mono ?_
        rintro e w8 ⟨D, nd, cd, rfl, hne, g2⟩
        obtain ⟨u1, u2⟩ := encGood_true DI.out.2.1 (by rw [DI.out.2.2.1]; exact DI.out.2.2.2)
        rw [u1, DI.out.2.2.1] at g2
        rw [u2]
        have B8 := Aside0.mk (B7.out.trans (g2.below.mono B7.out.size))
        obtain ⟨s, hs⟩ : ∃ s, s = strOfNums bs := ⟨_, rfl⟩
        have cA := g2.row_string Try.underlying35 Try.underlying5 Try.underlying9
        have cB : (convert 35 9 (.slice B nb cb)).run Try.prog w8 = .ok (.string (strOfNums bs)) w8 := Kd.C_string Try.underlying35 Try.underlying5 Try.underlying9 (Kd.C_below CB.out B8.out)
        rw [← hs] at cA cB
        clear u1 u2 hne
        go_wp2_with fail
        go_ret
        exact ⟨rfl, B8.out⟩
      · have B6 := Aside0.mk (BE.out.trans (hbel.mono BE.out.size))
        have dne : (cc != 0) = true := by simpa using hcc
        have H8 := Aside0.mk ((Hw.start w6).alloc (.cells #[.int .i64 0, .int .i64 0, .int .i64 0, .int .i64 0, .int .i64 0, .int .i64 0, .int .i64 0, .bool false, .slice none 0 0, .slice none 0 0, .slice none 0 0, .slice none 0 0] 53))
        clear hr hbel
        go_wp2_with (refine Hw.store_row rfl 53 (.tmp 9) (.tmp 49) rfl w6.heap.size #[.int .i64 0, .int .i64 0, .int .i64 0, .int .i64 0, .int .i64 0, .int .i64 0, .int .i64 0, .bool false, .slice none 0 0, .slice none 0 0, .slice none 0 0, .slice none 0 0] rfl rfl H8.out (by kernel_rfl) (by rfl) (by first | kernel_rfl | rfl | simp [Value.oneCell']) ?_; intro w7 H9; have y0 := H9.out.cellAt w6.heap.size 0 (v := .int .i64 0) rfl; have y1 := H9.out.cellAt w6.heap.size 1 (v := .int .i64 0) rfl; have y2 := H9.out.cellAt w6.heap.size 2 (v := .int .i64 0) rfl; have y3 := H9.out.cellAt w6.heap.size 3 (v := .int .i64 0) rfl; have y4 := H9.out.cellAt w6.heap.size 4 (v := .int .i64 0) rfl; have y5 := H9.out.cellAt w6.heap.size 5 (v := .int .i64 0) rfl; have y6 := H9.out.cellAt w6.heap.size 6 (v := .int .i64 0) rfl; have y7 := H9.out.cellAt w6.heap.size 7 (v := .bool false) rfl; have y8 := H9.out.cellAt w6.heap.size 8 (v := .slice none 0 0) rfl; have y9 := H9.out.cellAt w6.heap.size 9 (v := .slice none 0 0) rfl; have y10 := H9.out.cellAt w6.heap.size 10 (v := .slice none 0 0) rfl; have y11 := H9.out.cellAt w6.heap.size 11 (v := .slice none 0 0) rfl)
        have B7 := Aside0.mk (B6.out.trans (H9.out.below.mono B6.out.size))
        have SZ := Aside0.mk (same_ok 0 0 0 0 0 0 0 0 0 0 0 0 0 0 false false [] [] [] [] [] [] [] [] none none none none none none none none 0 0 0 0 0 0 0 0 0 0 0 0 0 0 0 0 w7 (MsgC.mk (s1 := nilH) (s2 := nilH) (s3 := nilH) (s4 := nilH) (Kd.C_nil _ _) (Kd.C_nil _ _) (Kd.C_nil _ _) (Kd.C_nil _ _)) (MsgC.mk (s1 := nilH) (s2 := nilH) (s3 := nilH) (s4 := nilH) (Kd.C_nil _ _) (Kd.C_nil _ _) (Kd.C_nil _ _) (Kd.C_nil _ _)))
        refine SZ.out.mono ?_
        rintro e w8 ⟨bb, rfl, hbb, hb2⟩
        obtain rfl : bb = true := hbb.2 rfl
        have B8 := Aside0.mk (B7.out.trans (hb2.mono B7.out.size))
        clear hbb hb2
        go_wp2_with fail
        go_ret
        exact ⟨rfl, B8.out⟩
theorem codeBack_walk (m : Msg) (s1 s2 s3 s4 : Hdr) (B : Option Addr) (cb : Nat) (bs : List Int) (w : World) (hC : MsgC w m s1 s2 s3 s4) (hok : MsgOk m) (_ : MsgLe m s1 s2 s3 s4)
    (hB : (Kd.int .u8).C w B bs.length bs) (hcb : bs.length ≤ cb) (sb : bs.length * 1 ≤ 140737488351232 ∧ ∀ x ∈ bs, (Lit.int .u8 x).wf = true) :
    Calls Try.prog 10 #[msgV m s1 s2 s3 s4, .slice B bs.length cb] w fun e w' => e = .returned (.bool true) ∧ Below w.heap.size w w' :=
  codeBack_ok m s1 s2 s3 s4 B _ cb bs w hC hok hB hcb (bytes_wf sb.2)
end Go.Proofs.Ytloiclalcepbeaa
