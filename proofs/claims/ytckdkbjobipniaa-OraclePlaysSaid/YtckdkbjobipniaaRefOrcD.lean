/- The document's oracle: write, Ask, Settle. Printed by wip/gen/reforcd.py. -/
import Derived.Test.YtckdkbjobipniaaRefOrcC
import Derived.Test.YtckdkbjobipniaaRefLog
set_option linter.unusedVariables false
set_option linter.unusedSimpArgs false
namespace Go.Proofs.Ytckdkbjobipniaa
open Go.RowKit Go.Proofs.YtckdkbjobipniaaW.PrintWords Go.Proofs.YtckdkbjobipniaaW.PrintLast
/-- The document's oracle of the records ms, as a value. -/
def RefIs (w0 w : World) (F : HP) (ms : List Msg) (room : Int) (v : Value) : Prop := ∃ (t : ByteArray) (dur : Int) (A : Option Addr) (n c : Nat) (B : Option Addr) (m d : Nat), v = .agg #[.string t, .int .i64 dur, .int .i64 room, .slice A n c, .slice B m d] ∧ t = strOfNums (logB ms) ∧ dur = ((logB ms).length : Int) ∧ n = (oopen ms).iss.length ∧ m = (oopen ms).done.length ∧ Hw w0 w (crow 12 27 A n c (issCells (oopen ms).iss) * (crow 1 2 B m d ((oopen ms).done.flatMap intC) * F))
noncomputable def wr2 (ms : List Msg) (M : Msg) (room : Int) : List Msg := if addErr M (logB ms).length room = 0 then ms ++ [M] else ms
section
variable {w0 w : World} {F : HP}
theorem rw1 {P1 P2 P3 P4 C D : HP} (h : Hw w0 w (P1 * (P2 * (P3 * (P4 * (C * (D * F))))))) : Hw w0 w (C * (D * (P1 * (P2 * (P3 * (P4 * F)))))) := h.as (by ac_rfl)
theorem rw2 {P1 P2 P3 P4 C D : HP} (h : Hw w0 w (P3 * (C * (D * (P1 * (P2 * (P4 * F))))))) : Hw w0 w (C * (D * F)) := (h.as (Q := C * (D * F) * (P1 * (P2 * (P3 * P4)))) (by ac_rfl)).left
set_option maxHeartbeats 12800000 in
set_option maxRecDepth 100000 in
theorem r14write_ok (t : ByteArray) (dur room : Int) (A : Option Addr) (n c : Nat) (B : Option Addr) (m d : Nat) (ms : List Msg) (ht : t = strOfNums (logB ms)) (hdur : dur = ((logB ms).length : Int)) (hn : n = (oopen ms).iss.length) (hm : m = (oopen ms).done.length) (hs : OrcMs ms room) (h : Hw w0 w (crow 12 27 A n c (issCells (oopen ms).iss) * (crow 1 2 B m d ((oopen ms).done.flatMap intC) * F))) (k src id rev : Int) (hM : MsgOk (⟨k, src, 0, id, rev, 0, 0, false, [], [], [], []⟩ : Msg)) :
    Calls Try.prog 91 #[.agg #[.string t, .int .i64 dur, .int .i64 room, .slice A n c, .slice B m d], .agg #[.int .i64 k, .int .i64 src, .int .i64 0, .int .i64 id, .int .i64 rev, .int .i64 0, .int .i64 0, .bool false, .slice none 0 0, .slice none 0 0, .slice none 0 0, .slice none 0 0]] w fun e w' => ∃ v, e = .returned (.tuple #[v, .int .i64 (addErr (⟨k, src, 0, id, rev, 0, 0, false, [], [], [], []⟩ : Msg) (logB ms).length room)]) ∧ RefIs w0 w' F (wr2 ms (⟨k, src, 0, id, rev, 0, 0, false, [], [], [], []⟩ : Msg) room) room v := by
  have TT := Aside0.mk ht
  have DD := Aside0.mk hdur
  have NN := Aside0.mk hn
  have MM := Aside0.mk hm
  have HS := Aside0.mk hs
  have TZ := Aside0.mk (show t.size = (logB ms).length by rw [ht, tx_size])
  have LB := Aside0.mk (show (logB ms).length ≤ 1048576 by have h1 := hs.len; have h2 := hs.r1; omega)
  have NB : n ≤ 1000000 := by have h1 := oopen_len ms; have h2 := hs.cnt; omega
  have MB : m ≤ 1000000 := by have h1 := done_len ms; have h2 := hs.cnt; omega
  have H1 := Aside0.mk (((h.alloc (.cells #[.string t, .int .i64 dur, .int .i64 room, .slice A n c, .slice B m d] 77)).alloc (.cells #[.int .i64 k, .int .i64 src, .int .i64 0, .int .i64 id, .int .i64 rev, .int .i64 0, .int .i64 0, .bool false, .slice none 0 0, .slice none 0 0, .slice none 0 0, .slice none 0 0] 27)).alloc (.cells #[.string ⟨#[]⟩, .int .i64 0, .int .i64 0, .slice none 0 0, .slice none 0 0] 77))
  simp only [World.size_alloc] at H1
  obtain ⟨M, hMM⟩ : ∃ M, M = (⟨k, src, 0, id, rev, 0, 0, false, [], [], [], []⟩ : Msg) := ⟨_, rfl⟩
  have MK := Aside0.mk (show M.kind = k ∧ M.src = src ∧ M.id = id ∧ M.rev = rev by rw [hMM]; exact ⟨rfl, rfl, rfl, rfl⟩)
  have ADD := Aside0.mk (fun (W : World) => radd_ok (⟨k, src, 0, id, rev, 0, 0, false, [], [], [], []⟩ : Msg) none none none none 0 0 0 0 0 0 0 0 (logB ms) ((logB ms).length : Int) room W ⟨Kd.C_nil _ _, Kd.C_nil _ _, Kd.C_nil _ _, Kd.C_nil _ _⟩ hM ⟨fun x hx => by simp at hx, fun x hx => by simp at hx, fun x hx => by simp at hx⟩ LB.out hs.r1)
  rw [← ht, ← hdur] at ADD
  have ADD2 := Aside0.mk (show ∀ W : World, Calls Try.prog 23 #[.agg #[.string t, .int .i64 dur, .int .i64 room], .agg #[.int .i64 k, .int .i64 src, .int .i64 0, .int .i64 id, .int .i64 rev, .int .i64 0, .int .i64 0, .bool false, .slice none 0 0, .slice none 0 0, .slice none 0 0, .slice none 0 0]] W fun e w' => e = .returned (.tuple #[.agg #[.string (strOfNums (addB (⟨k, src, 0, id, rev, 0, 0, false, [], [], [], []⟩ : Msg) (logB ms) room)), .int .i64 dur, .int .i64 room], .int .i64 (addErr (⟨k, src, 0, id, rev, 0, 0, false, [], [], [], []⟩ : Msg) (logB ms).length room)]) ∧ Below W.heap.size W w' from ADD.out)
  have OKM := Aside0.mk hM
  have REP := Aside0.mk (fun (W : World) (G : HP) (tt : ByteArray) (dd : Int) (hh : Hw w0 W (crow 12 27 A n c (issCells (oopen ms).iss) * (crow 1 2 B m d ((oopen ms).done.flatMap intC) * G))) => r14replay_ok tt dd room A n c B m d (oopen ms) (⟨k, src, 0, id, rev, 0, 0, false, [], [], [], []⟩ : Msg) none none none none 0 0 0 0 0 0 0 0 hh (oopen_ok ms) hn hm NB MB)
  clear ht hdur hn hm hs h hM ADD
  have k0 := H1.out.cellAt w.heap.size 0 (v := .string t) rfl
  have k1 := H1.out.cellAt w.heap.size 1 (v := .int .i64 dur) rfl
  have k2 := H1.out.cellAt w.heap.size 2 (v := .int .i64 room) rfl
  have k3 := H1.out.cellAt w.heap.size 3 (v := .slice A n c) rfl
  have k4 := H1.out.cellAt w.heap.size 4 (v := .slice B m d) rfl
  have l0 := H1.out.cellAt (w.heap.size + 1) 0 (v := .int .i64 k) rfl
  have l1 := H1.out.cellAt (w.heap.size + 1) 1 (v := .int .i64 src) rfl
  have l2 := H1.out.cellAt (w.heap.size + 1) 2 (v := .int .i64 0) rfl
  have l3 := H1.out.cellAt (w.heap.size + 1) 3 (v := .int .i64 id) rfl
  have l4 := H1.out.cellAt (w.heap.size + 1) 4 (v := .int .i64 rev) rfl
  have l5 := H1.out.cellAt (w.heap.size + 1) 5 (v := .int .i64 0) rfl
  have l6 := H1.out.cellAt (w.heap.size + 1) 6 (v := .int .i64 0) rfl
  have l7 := H1.out.cellAt (w.heap.size + 1) 7 (v := .bool false) rfl
  have l8 := H1.out.cellAt (w.heap.size + 1) 8 (v := .slice none 0 0) rfl
  have l9 := H1.out.cellAt (w.heap.size + 1) 9 (v := .slice none 0 0) rfl
  have l10 := H1.out.cellAt (w.heap.size + 1) 10 (v := .slice none 0 0) rfl
  have l11 := H1.out.cellAt (w.heap.size + 1) 11 (v := .slice none 0 0) rfl
  go_enter Try.func91, Try.ntmps91
  go_wp2_with fail
  refine (ADD2.out _).mono ?_
  rintro e w2 ⟨rfl, hb2⟩
  have H2 := Aside0.mk (H1.out.from_below hb2)
  obtain ⟨b1, hb1⟩ : ∃ b, b = w.heap.size := ⟨_, rfl⟩
  obtain ⟨bm, hbm⟩ : ∃ b, b = w.heap.size + 1 := ⟨_, rfl⟩
  obtain ⟨br, hbr⟩ : ∃ b, b = w.heap.size + 1 + 1 := ⟨_, rfl⟩
  have n12 : ¬ b1 = bm := by omega
  have n21 : ¬ bm = b1 := by omega
  have n13 : ¬ b1 = br := by omega
  have n31 : ¬ br = b1 := by omega
  have n23 : ¬ bm = br := by omega
  have n32 : ¬ br = bm := by omega
  rw [← hbr, ← hbm, ← hb1] at H2
  rw [← hbr, ← hbm, ← hb1]
  clear hb1 hbm hbr hb2 H1 k0 k1 k2 k3 k4 l0 l1 l2 l3 l4 l5 l6 l7 l8 l9 l10 l11
  have k0 := H2.out.cellAt b1 0 (v := .string t) rfl
  have k1 := H2.out.cellAt b1 1 (v := .int .i64 dur) rfl
  have k2 := H2.out.cellAt b1 2 (v := .int .i64 room) rfl
  have k3 := H2.out.cellAt b1 3 (v := .slice A n c) rfl
  have k4 := H2.out.cellAt b1 4 (v := .slice B m d) rfl
  have l0 := H2.out.cellAt bm 0 (v := .int .i64 k) rfl
  have l1 := H2.out.cellAt bm 1 (v := .int .i64 src) rfl
  have l2 := H2.out.cellAt bm 2 (v := .int .i64 0) rfl
  have l3 := H2.out.cellAt bm 3 (v := .int .i64 id) rfl
  have l4 := H2.out.cellAt bm 4 (v := .int .i64 rev) rfl
  have l5 := H2.out.cellAt bm 5 (v := .int .i64 0) rfl
  have l6 := H2.out.cellAt bm 6 (v := .int .i64 0) rfl
  have l7 := H2.out.cellAt bm 7 (v := .bool false) rfl
  have l8 := H2.out.cellAt bm 8 (v := .slice none 0 0) rfl
  have l9 := H2.out.cellAt bm 9 (v := .slice none 0 0) rfl
  have l10 := H2.out.cellAt bm 10 (v := .slice none 0 0) rfl
  have l11 := H2.out.cellAt bm 11 (v := .slice none 0 0) rfl
  have lt1 := H2.out.ltB b1
  have lt2 := H2.out.ltB bm
  have lt3 := H2.out.ltB br
  obtain ⟨ev, hev⟩ : ∃ x, x = addErr (⟨k, src, 0, id, rev, 0, 0, false, [], [], [], []⟩ : Msg) (logB ms).length room := ⟨_, rfl⟩
  obtain ⟨s2, hs2⟩ : ∃ x, x = strOfNums (addB (⟨k, src, 0, id, rev, 0, 0, false, [], [], [], []⟩ : Msg) (logB ms) room) := ⟨_, rfl⟩
  rw [← hev, ← hs2]
  have EV := Aside0.mk hev
  have S2 := Aside0.mk hs2
  have HX := Aside0.mk (H2.out.alloc (.cells #[.string s2, .int .i64 dur, .int .i64 room] 51))
  clear hev hs2
  by_cases hz : ev = 0
  · have e1 : (ev != 0) = false := by simpa using hz
    have A0 := Aside0.mk (show addErr (⟨k, src, 0, id, rev, 0, 0, false, [], [], [], []⟩ : Msg) (logB ms).length room = 0 by rw [← EV.out]; exact hz)
    have WS := Aside0.mk (write_step OKM.out A0.out 0 0)
    have WR := Aside0.mk (show wr2 ms (⟨k, src, 0, id, rev, 0, 0, false, [], [], [], []⟩ : Msg) room = ms ++ [(⟨k, src, 0, id, rev, 0, 0, false, [], [], [], []⟩ : Msg)] from if_pos A0.out)
    have S3 := Aside0.mk (show s2 = strOfNums (logB (ms ++ [(⟨k, src, 0, id, rev, 0, 0, false, [], [], [], []⟩ : Msg)])) by rw [S2.out, WS.out.2.1])
    have ZS := Aside0.mk (show s2.size = (logB (ms ++ [(⟨k, src, 0, id, rev, 0, 0, false, [], [], [], []⟩ : Msg)])).length by rw [S3.out, tx_size])
    have SY := Aside0.mk (fun W => refSync_ok s2 dur room W (by rw [ZS.out]; have h1 := WS.out.2.2.2.2; have h2 := HS.out.r1; omega))
    unfold refD at SY
    subst hz
    go_wp2_with fail
    refine (SY.out _).mono ?_
    rintro e w3 ⟨rfl, hb3⟩
    have H3 := Aside0.mk (HX.out.from_below hb3)
    clear hb3 HX SY H2 k0 k1 k2 k3 k4 l0 l1 l2 l3 l4 l5 l6 l7 l8 l9 l10 l11 lt1 lt2 lt3
    obtain ⟨dz, hdz⟩ : ∃ x : Int, x = (s2.size : Int) := ⟨_, rfl⟩
    rw [← hdz]
    have DZ := Aside0.mk (show dz = ((logB (ms ++ [(⟨k, src, 0, id, rev, 0, 0, false, [], [], [], []⟩ : Msg)])).length : Int) by rw [hdz, ZS.out])
    clear hdz
    have k0 := H3.out.cellAt b1 0 (v := .string t) rfl
    have k1 := H3.out.cellAt b1 1 (v := .int .i64 dur) rfl
    have k2 := H3.out.cellAt b1 2 (v := .int .i64 room) rfl
    have k3 := H3.out.cellAt b1 3 (v := .slice A n c) rfl
    have k4 := H3.out.cellAt b1 4 (v := .slice B m d) rfl
    have l0 := H3.out.cellAt bm 0 (v := .int .i64 k) rfl
    have l1 := H3.out.cellAt bm 1 (v := .int .i64 src) rfl
    have l2 := H3.out.cellAt bm 2 (v := .int .i64 0) rfl
    have l3 := H3.out.cellAt bm 3 (v := .int .i64 id) rfl
    have l4 := H3.out.cellAt bm 4 (v := .int .i64 rev) rfl
    have l5 := H3.out.cellAt bm 5 (v := .int .i64 0) rfl
    have l6 := H3.out.cellAt bm 6 (v := .int .i64 0) rfl
    have l7 := H3.out.cellAt bm 7 (v := .bool false) rfl
    have l8 := H3.out.cellAt bm 8 (v := .slice none 0 0) rfl
    have l9 := H3.out.cellAt bm 9 (v := .slice none 0 0) rfl
    have l10 := H3.out.cellAt bm 10 (v := .slice none 0 0) rfl
    have l11 := H3.out.cellAt bm 11 (v := .slice none 0 0) rfl
    have f0 := H3.out.freeAt b1
    have H4 := Aside0.mk (((H3.out.setAt b1 0 (.string s2)).setAt b1 1 (.int .i64 dz)).setAt b1 2 (.int .i64 room))
    clear H3
    go_wp2_with fail
    refine (REP.out _ _ s2 dz (rw1 H4.out)).mono ?_
    rintro e w5 ⟨A2, n2, c2, B2, m2, d2, rfl, g1, g2, g3⟩
    have RS := Aside0.mk (show oreplay (oopen ms) (⟨k, src, 0, id, rev, 0, 0, false, [], [], [], []⟩ : Msg) = oopen (ms ++ [(⟨k, src, 0, id, rev, 0, 0, false, [], [], [], []⟩ : Msg)]) from (oopen_snoc _ _).symm)
    rw [RS.out] at g1 g2 g3
    have G1 := Aside0.mk g1
    have G2 := Aside0.mk g2
    have HB := Aside0.mk (g3.atB br)
    clear g1 g2 g3 H4 REP k0 k1 k2 k3 k4 l0 l1 l2 l3 l4 l5 l6 l7 l8 l9 l10 l11 f0
    go_wp2_with (refine Hw.store_row rfl 77 (.tmp 4) (.tmp 24) rfl br #[.string s2, .int .i64 dz, .int .i64 room, .slice A2 n2 c2, .slice B2 m2 d2] rfl rfl HB.out (by kernel_rfl) (by rfl) (by first | kernel_rfl | rfl | simp [Value.oneCell']) ?_; intro wz HZ; have y0 := HZ.out.cellAt br 0 (v := .string s2) rfl; have y1 := HZ.out.cellAt br 1 (v := .int .i64 dz) rfl; have y2 := HZ.out.cellAt br 2 (v := .int .i64 room) rfl; have y3 := HZ.out.cellAt br 3 (v := .slice A2 n2 c2) rfl; have y4 := HZ.out.cellAt br 4 (v := .slice B2 m2 d2) rfl)
    exact bodyPost_ret (v := .tuple #[.agg #[.string s2, .int .i64 dz, .int .i64 room, .slice A2 n2 c2, .slice B2 m2 d2], .int .i64 0]) (by simp [results, Try.results91, go_sem, y0, y1, y2, y3, y4]) rfl ⟨_, by rw [A0.out], by rw [WR.out]; exact ⟨s2, dz, A2, n2, c2, B2, m2, d2, rfl, S3.out, DZ.out, G1.out, G2.out, rw2 HZ.out⟩⟩
  · have e1 : (ev != 0) = true := by simpa using hz
    have WR := Aside0.mk (show wr2 ms (⟨k, src, 0, id, rev, 0, 0, false, [], [], [], []⟩ : Msg) room = ms from if_neg (by rw [← EV.out]; exact hz))
    have HB := Aside0.mk (HX.out.atB br)
    go_wp2_with (refine Hw.store_row rfl 77 (.tmp 4) (.tmp 17) rfl br #[.string t, .int .i64 dur, .int .i64 room, .slice A n c, .slice B m d] rfl rfl HB.out (by kernel_rfl) (by rfl) (by first | kernel_rfl | rfl | simp [Value.oneCell']) ?_; intro wz HZ; have y0 := HZ.out.cellAt br 0 (v := .string t) rfl; have y1 := HZ.out.cellAt br 1 (v := .int .i64 dur) rfl; have y2 := HZ.out.cellAt br 2 (v := .int .i64 room) rfl; have y3 := HZ.out.cellAt br 3 (v := .slice A n c) rfl; have y4 := HZ.out.cellAt br 4 (v := .slice B m d) rfl)
    exact bodyPost_ret (v := .tuple #[.agg #[.string t, .int .i64 dur, .int .i64 room, .slice A n c, .slice B m d], .int .i64 ev]) (by simp [results, Try.results91, go_sem, y0, y1, y2, y3, y4]) rfl ⟨_, by rw [EV.out], by rw [WR.out]; exact ⟨t, dur, A, n, c, B, m, d, rfl, TT.out, DD.out, NN.out, MM.out, ((HZ.out.dropB br).dropB bm).dropB b1 |>.right⟩⟩
end
end Go.Proofs.Ytckdkbjobipniaa
