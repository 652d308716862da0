/- LogAgain's walk. Printed by wip/gen/logagain.py. -/
import Derived.Test.YtahojkpbjijckaaLogW
import Derived.Test.YtahojkpbjijckaaLogS
import Derived.Test.YtahojkpbjijckaaRefDisk
set_option linter.unusedVariables false
set_option linter.unusedSimpArgs false
namespace Go.Proofs.Ytahojkpbjijckaa
open Go.RowKit Go.Proofs.YtahojkpbjijckaaW.PrintWords Go.Proofs.YtahojkpbjijckaaW.PrintLast
theorem logB_count : ∀ (ms : List Msg), ms.length * 8 ≤ (logB ms).length
  | [] => by simp [logB]
  | m :: ms => by
    rw [logB_cons, List.length_append, recOf_len, List.length_cons]
    have := logB_count ms
    omega
section
variable {w0 w : World}
theorem gx1 {L D A X B1 R : HP} (h : Hw w0 w (A * (B1 * (L * (D * (X * R)))))) : Hw w0 w (L * (D * (A * R))) := (h.as (Q := L * (D * (A * R)) * (X * B1)) (by ac_rfl)).left
theorem gx2 {L D A X R : HP} (h : Hw w0 w (L * (D * (X * (A * R))))) : Hw w0 w (L * (D * (A * R))) := (h.as (Q := L * (D * (A * R)) * X) (by ac_rfl)).left
theorem gx3 {L D A X R : HP} (h : Hw w0 w (X * (L * (D * (A * R))))) : Hw w0 w (L * (D * (X * (A * R)))) := h.as (by ac_rfl)
theorem gx6 {L D A R : HP} (h : Hw w0 w (A * (L * (D * R)))) : Hw w0 w (L * (D * (A * R))) := h.as (by ac_rfl)
theorem gx7 {L D X : HP} (h : Hw w0 w (L * (D * X))) : Hw w0 w (D * (L * X)) := h.as (by ac_rfl)
end
set_option maxHeartbeats 12800000 in
set_option maxRecDepth 100000 in
theorem logAgain_ok (A0 : Option Addr) (n0 c0 : Nat) (la : List MH) (room : Int) (w : World) (hA : MsgsC w A0 n0 la) (hok : ∀ x ∈ la, MsgOk x.m) (hn0 : n0 * 160 ≤ 140737488351232) (hr : 0 ≤ room) (hr2 : room ≤ 1048576) :
    Calls Try.prog 6 #[.slice A0 n0 c0, .int .i64 room] w fun e w' => e = .returned (.bool true) ∧ Below w.heap.size w w' := by
  have MA := Aside0.mk hA
  have OKA := Aside0.mk hok
  clear hA hok
  go_enter Try.func6, Try.ntmps6
  go_wp2_with fail
  refine (lawake_ok w).mono ?_
  rintro e w1 ⟨rfl, h1⟩
  have H1 := Aside0.mk ((Hw.start w).from_below h1)
  clear h1
  go_wp2_with fail
  refine (new_ok room hr hr2 H1.out).mono ?_
  rintro e w2 ⟨p, rfl, h2⟩
  have H2 := Aside0.mk h2
  clear h2 H1
  go_wp2_with fail
  refine (lopen_logB [] (fun m hm => by simp at hm) (by decide) H2.out).mono ?_
  rintro e w3 ⟨q, Ao, no, co, lo, rfl, _, _, hno, _, _, h3⟩
  obtain rfl : no = 0 := hno
  have h3 := cut_move h3
  obtain ⟨R, hR⟩ : ∃ R, R = (crow 12 36 Ao 0 co (lo.flatMap mhC) * (msgsP lo * HP.emp)) := ⟨_, rfl⟩
  rw [← hR] at h3
  have H3 := Aside0.mk h3
  clear h3 H2 hR
  go_wp2_with fail
  go_loopw [38, 9] (fun i va wr => ∃ (k n' : Nat) (al : List MH) (A : Option Addr) (c : Nat), k ≤ n0 ∧ i = .int .i64 k ∧ va = .slice A n' c ∧ Aside0 (al.length = n') ∧ Aside0 (∀ x ∈ al, x.C w) ∧ Aside0 (∀ x ∈ al, GoodM x.m) ∧ Aside0 (((logB (al.map (·.m))).length : Int) ≤ room) ∧ Aside0 (Hw w wr (logP q p n' * (disk p (logB (al.map (·.m))) ((logB (al.map (·.m))).length : Int) room * (crow 12 36 A n' c (al.flatMap mhC) * R))))) (fun i _ _ => n0 - (intOf i).toNat)
  case atStart => exact ⟨0, 0, [], none, 0, Nat.zero_le _, rfl, rfl, ⟨rfl⟩, ⟨fun x hx => by simp at hx⟩, ⟨fun x hx => by simp at hx⟩, ⟨by simpa [logB] using hr⟩, ⟨by
    have h := crow_none (sz := 12) (e := 36) (A := none) (n := 0) (cs := ([] : List MH).flatMap mhC) rfl rfl H3.out
    exact gx6 h⟩⟩
  case round =>
    obtain ⟨k, n', al, A, c, hk, rfl, rfl, AL, AI, AG, SZ, HW⟩ := hrel
    clear H3
    have hn8 : n' * 8 ≤ 1048576 := by
      have h1 := logB_count (al.map (·.m))
      rw [List.length_map, AL.out] at h1
      have := SZ.out
      omega
    by_cases hlt : k < n0
    · have MW := Aside0.mk (MA.out.below HW.out.below)
      obtain ⟨ad, ⟨m, ⟨a1, b1, e1⟩, ⟨a2, b2, e2⟩, ⟨a3, b3, e3⟩, ⟨a4, b4, e4⟩⟩, rfl, hx, XC, QX⟩ := msgs_at MW.out k hlt
      have x0 := QX.out.c0
      have x1 := QX.out.c1
      have x2 := QX.out.c2
      have x3 := QX.out.c3
      have x4 := QX.out.c4
      have x5 := QX.out.c5
      have x6 := QX.out.c6
      have x7 := QX.out.c7
      have x8 := QX.out.c8
      have x9 := QX.out.c9
      have x10 := QX.out.c10
      have x11 := QX.out.c11
      have HX := Aside0.mk (HW.out.alloc (.cells #[.int .i64 0, .int .i64 0, .int .i64 0, .int .i64 0, .int .i64 0, .int .i64 0, .int .i64 0, .bool false, .slice none 0 0, .slice none 0 0, .slice none 0 0, .slice none 0 0] 36))
      have OX := Aside0.mk (OKA.out _ (List.mem_of_getElem? hx.out))
      clear QX
      go_wp2_with (refine Hw.store_row rfl 36 (.tmp 11) (.tmp 41) rfl wr.heap.size #[.int .i64 m.kind, .int .i64 m.src, .int .i64 m.dst, .int .i64 m.id, .int .i64 m.rev, .int .i64 m.epoch, .int .i64 m.slot, .bool m.flag, .slice a1 b1 e1, .slice a2 b2 e2, .slice a3 b3 e3, .slice a4 b4 e4] rfl rfl HX.out (by kernel_rfl) (by rfl) (by first | kernel_rfl | rfl | simp [Value.oneCell']) ?_; intro w4 H4)
      have H5 := Aside0.mk (gx3 H4.out)
      have MX0 := Aside0.mk (MA.out.msg _ (List.mem_of_getElem? hx.out))
      obtain ⟨sz, hsz⟩ : ∃ sz : Int, sz = ((logB (al.map (·.m))).length : Int) := ⟨_, rfl⟩
      have HSZ := Aside0.mk hsz
      have SO := size_ok p _ _ _ (gx7 H5.out)
      rw [← HSZ.out] at SO
      refine SO.mono ?_
      rintro e w5 ⟨rfl, hd⟩
      have H6 := Aside0.mk (H5.out.drawn hd)
      have y0 := H6.out.cellAt wr.heap.size 0 (v := .int .i64 m.kind) rfl
      have y1 := H6.out.cellAt wr.heap.size 1 (v := .int .i64 m.src) rfl
      have y2 := H6.out.cellAt wr.heap.size 2 (v := .int .i64 m.dst) rfl
      have y3 := H6.out.cellAt wr.heap.size 3 (v := .int .i64 m.id) rfl
      have y4 := H6.out.cellAt wr.heap.size 4 (v := .int .i64 m.rev) rfl
      have y5 := H6.out.cellAt wr.heap.size 5 (v := .int .i64 m.epoch) rfl
      have y6 := H6.out.cellAt wr.heap.size 6 (v := .int .i64 m.slot) rfl
      have y7 := H6.out.cellAt wr.heap.size 7 (v := .bool m.flag) rfl
      have y8 := H6.out.cellAt wr.heap.size 8 (v := .slice a1 b1 e1) rfl
      have y9 := H6.out.cellAt wr.heap.size 9 (v := .slice a2 b2 e2) rfl
      have y10 := H6.out.cellAt wr.heap.size 10 (v := .slice a3 b3 e3) rfl
      have y11 := H6.out.cellAt wr.heap.size 11 (v := .slice a4 b4 e4) rfl
      clear hd SO H4 H5 HX HW XC hx x0 x1 x2 x3 x4 x5 x6 x7 x8 x9 x10 x11 hsz
      go_wp2_with fail
      refine (lwrite_ok m a1 a2 a3 a4 b1 b2 b3 b4 e1 e2 e3 e4 (MX0.out.below H6.out.below) OX.out H6.out hr hr2 (by omega) (by omega)).mono ?_
      rintro e w6 ⟨rfl, h7⟩
      clear H6 y0 y1 y2 y3 y4 y5 y6 y7 y8 y9 y10 y11
      by_cases hz : addErr m (logB (al.map (·.m))).length room = 0
      · obtain ⟨g1, g2, g3, g4, g5⟩ := write_step OX.out hz (n' : Int) ((logB (al.map (·.m))).length : Int)
        rw [g2, g3, g4] at h7
        rw [hz]
        have EM : (al ++ [(⟨m, (a1, b1, e1), (a2, b2, e2), (a3, b3, e3), (a4, b4, e4)⟩ : MH)]).map (·.m) = al.map (·.m) ++ [m] := by simp
        rw [← EM] at h7 g5
        have G1 := Aside0.mk g1
        have G5 := Aside0.mk g5
        have H7 := Aside0.mk h7
        have y0 := H7.out.cellAt wr.heap.size 0 (v := .int .i64 m.kind) rfl
        have y1 := H7.out.cellAt wr.heap.size 1 (v := .int .i64 m.src) rfl
        have y2 := H7.out.cellAt wr.heap.size 2 (v := .int .i64 m.dst) rfl
        have y3 := H7.out.cellAt wr.heap.size 3 (v := .int .i64 m.id) rfl
        have y4 := H7.out.cellAt wr.heap.size 4 (v := .int .i64 m.rev) rfl
        have y5 := H7.out.cellAt wr.heap.size 5 (v := .int .i64 m.epoch) rfl
        have y6 := H7.out.cellAt wr.heap.size 6 (v := .int .i64 m.slot) rfl
        have y7 := H7.out.cellAt wr.heap.size 7 (v := .bool m.flag) rfl
        have y8 := H7.out.cellAt wr.heap.size 8 (v := .slice a1 b1 e1) rfl
        have y9 := H7.out.cellAt wr.heap.size 9 (v := .slice a2 b2 e2) rfl
        have y10 := H7.out.cellAt wr.heap.size 10 (v := .slice a3 b3 e3) rfl
        have y11 := H7.out.cellAt wr.heap.size 11 (v := .slice a4 b4 e4) rfl
        have H10n := H7.out.alloc (.cells #[.int .i64 m.kind, .int .i64 m.src, .int .i64 m.dst, .int .i64 m.id, .int .i64 m.rev, .int .i64 m.epoch, .int .i64 m.slot, .bool m.flag, .slice a1 b1 e1, .slice a2 b2 e2, .slice a3 b3 e3, .slice a4 b4 e4] 36)
        have H10 := Aside0.mk (H10n.at (crow 12 36 A n' c (al.flatMap mhC)))
        have RDB := blk_cells H10n
        clear h7 g1 g2 g3 g4 g5 EM hz H10n HSZ
        go_wp2_with (at_builtin; refine crow_append (news := [.int .i64 m.kind, .int .i64 m.src, .int .i64 m.dst, .int .i64 m.id, .int .i64 m.rev, .int .i64 m.epoch, .int .i64 m.slot, .bool m.flag, .slice a1 b1 e1, .slice a2 b2 e2, .slice a3 b3 e3, .slice a4 b4 e4]) (m := 1) (c := 1) rfl (.tmp 51) (.tmp 53) 22 (.agg #[.int .i64 0, .int .i64 0, .int .i64 0, .int .i64 0, .int .i64 0, .int .i64 0, .int .i64 0, .bool false, .slice none 0 0, .slice none 0 0, .slice none 0 0, .slice none 0 0]) 160 rfl Try.underlying22 Try.infoMsg rfl (by decide) rfl rfl H10.out rfl (by intro u hu; simp only [List.mem_cons, List.not_mem_nil, or_false] at hu; rcases hu with rfl | rfl | rfl | rfl | rfl | rfl | rfl | rfl | rfl | rfl | rfl | rfl <;> rfl) (fun _ => ⟨_, rfl, RDB⟩) (by decide) (by omega) ?_; intro A7 c7 w8 H11)
        clear RDB H10 H7 y0 y1 y2 y3 y4 y5 y6 y7 y8 y9 y10 y11
        go_roundw
        case rel => exact ⟨k + 1, n' + 1, al ++ [(⟨m, (a1, b1, e1), (a2, b2, e2), (a3, b3, e3), (a4, b4, e4)⟩ : MH)], A7, c7, by omega, by go_num, rfl, ⟨by rw [List.length_append, AL.out]; rfl⟩, ⟨fun z hz => (List.mem_append.1 hz).elim (AI.out z) (fun hz => by rw [List.mem_singleton] at hz; subst hz; exact MX0.out)⟩, ⟨fun z hz => (List.mem_append.1 hz).elim (AG.out z) (fun hz => by rw [List.mem_singleton] at hz; subst hz; exact G1.out)⟩, G5, ⟨by
          have h := H11.out
          rw [List.flatMap_append]
          exact gx1 h⟩⟩
        case measure => simp [intOf]; omega
      · obtain ⟨g2, g3, g4⟩ := write_skip hz (n' : Int) ((logB (al.map (·.m))).length : Int)
        rw [g2, g3, g4] at h7
        have H7 := Aside0.mk h7
        have he := (addErr_is m (logB (al.map (·.m))).length room).resolve_left hz
        clear h7 g2 g3 g4 hz
        rcases he with he | he
        all_goals
          rw [he]
          clear he
          go_wp2_with fail
          have SO := size_ok p _ _ _ (gx7 H7.out)
          rw [← HSZ.out] at SO
          refine SO.mono ?_
          rintro e w7 ⟨rfl, hd⟩
          have H8 := Aside0.mk (H7.out.drawn hd)
          clear SO hd H7
          go_wp2_with fail
          go_roundw
          case rel => exact ⟨k + 1, n', al, A, c, by omega, by go_num, rfl, AL, AI, AG, SZ, ⟨gx2 H8.out⟩⟩
          case measure => simp [intOf]; omega
    · have hk2 : k = n0 := by omega
      have SZ1 := Aside0.mk (show (logB (al.map (·.m))).length ≤ 1048576 by have := SZ.out; omega)
      have GA := Aside0.mk (show ∀ m ∈ al.map (·.m), GoodM m from fun z hz => by obtain ⟨y, hy, rfl⟩ := List.mem_map.1 hz; exact AG.out y hy)
      obtain ⟨sz, hsz⟩ : ∃ sz : Int, sz = ((logB (al.map (·.m))).length : Int) := ⟨_, rfl⟩
      have HSZ := Aside0.mk hsz
      subst hk2
      clear hsz
      go_wp2_with fail
      refine (lopen_logB (al.map (·.m)) GA.out SZ1.out (gx7 HW.out)).mono ?_
      rintro e w4 ⟨q2, A2, n2, c2, l2, rfl, hl, hn, hno, hh, hn3, h4⟩
      have HN := Aside0.mk hn
      have HH := Aside0.mk hh
      have HL := Aside0.mk hl
      have HN3 := Aside0.mk hn3
      have H4 := Aside0.mk (gx7 (cut_move h4))
      clear h4 HW hl hn hno hh hn3
      go_wp2_with fail
      have SO := size_ok p _ _ _ H4.out
      rw [← HSZ.out] at SO
      refine SO.mono ?_
      rintro e w5 ⟨rfl, hd⟩
      have H5 := Aside0.mk (H4.out.drawn hd)
      clear SO hd H4
      go_wp2_with fail
      refine (lopen_logB (al.map (·.m)) GA.out SZ1.out H5.out).mono ?_
      rintro e w6 ⟨q3, A3, n3, c3, l3, rfl, hl, hn, hno, hh, hn4, h6⟩
      have MS3 := Aside0.mk (cut_msgs h6 hn hn4 hh)
      have HL3 := Aside0.mk hl
      have H6 := Aside0.mk (gx7 (cut_move h6))
      have MS2 := Aside0.mk (cut_msgs ((H6.out.at (msgsP l2)).at (crow 12 36 A2 n2 c2 (l2.flatMap mhC))) HN.out HN3.out HH.out)
      have MA6 := Aside0.mk (msgs_of (H6.out.at (crow 12 36 A n' c (al.flatMap mhC))) AL.out (by omega) (fun z hz => (AI.out z hz).below H6.out.below))
      have SM := Aside0.mk (msame_ok A2 n2 c2 l2 A n' c al w6 MS2.out MA6.out)
      clear h6 H5 hl hn hno hh hn4
      go_wp2_with fail
      refine SM.out.mono ?_
      rintro e w7 ⟨bb, rfl, hbb, hbel⟩
      obtain rfl : bb = true := hbb.2 HL.out
      have H7 := Aside0.mk (H6.out.from_below hbel)
      have SM2 := Aside0.mk (msame_ok A3 n3 c3 l3 A n' c al w7 (MS3.out.below hbel) (MA6.out.below hbel))
      clear hbb hbel SM H6 MS2 MS3 MA6
      go_wp2_with fail
      refine SM2.out.mono ?_
      rintro e w8 ⟨bb, rfl, hbb, hbel⟩
      obtain rfl : bb = true := hbb.2 HL3.out
      have H8 := Aside0.mk (H7.out.from_below hbel)
      clear hbb hbel SM2 H7
      go_wp2_with fail
      have SO := size_ok p _ _ _ H8.out
      rw [← HSZ.out] at SO
      refine SO.mono ?_
      rintro e w9 ⟨rfl, hd⟩
      have H9 := Aside0.mk (H8.out.drawn hd)
      clear SO hd H8
      go_wp2_with fail
      have SO := durable_ok p _ _ _ H9.out
      rw [← HSZ.out] at SO
      refine SO.mono ?_
      rintro e w10 ⟨rfl, hd⟩
      have H10 := Aside0.mk (H9.out.drawn hd)
      clear SO hd H9
      go_wp2_with fail
      go_ret
      exact ⟨rfl, H10.out.below⟩
set_option maxHeartbeats 12800000 in
set_option maxRecDepth 100000 in
theorem logAgain_bad (A0 : Option Addr) (n0 c0 : Nat) (room : Int) (w : World) (hr : room < 0 ∨ 1048576 < room) :
    Calls Try.prog 6 #[.slice A0 n0 c0, .int .i64 room] w fun e w' => e = .returned (.bool true) ∧ Below w.heap.size w w' := by
  have HR := Aside0.mk hr
  clear hr
  go_enter Try.func6, Try.ntmps6
  go_wp2_with fail
  refine (lawake_ok w).mono ?_
  rintro e w1 ⟨rfl, h1⟩
  have H1 := Aside0.mk ((Hw.start w).from_below h1)
  clear h1
  go_wp2_with fail
  refine (new_bad room HR.out).mono ?_
  rintro e w2 ⟨rfl, rfl⟩
  go_wp2_with fail
  refine (refWrong_bad room _ HR.out).mono ?_
  rintro e w3 ⟨rfl, hd⟩
  have H2 := Aside0.mk (H1.out.drawn hd)
  clear hd
  go_wp2_with fail
  go_ret
  exact ⟨rfl, H2.out.below⟩
theorem logAgain_walk (A : Option Addr) (c : Nat) (ys : List TM0) (room : Int) (w : World) (hC : KMsg.C w A ys.length ys) (hl : ys.length ≤ c) (hS : ys.length * 160 ≤ 140737488351232 ∧ ∀ y ∈ ys, sM0 y) (_ : (Lit.int .i64 room).wf = true) :
    Calls Try.prog 6 #[.slice A ys.length c, .int .i64 room] w fun e w' => e = .returned (.bool true) ∧ Below w.heap.size w w' := by
  obtain ⟨l, h1, _, h3⟩ := msgs_args hC hS.2
  by_cases hr : 0 ≤ room ∧ room ≤ 1048576
  · exact logAgain_ok A _ c l room w h1 h3 (by have := hS.1; omega) hr.1 hr.2
  · exact logAgain_bad A _ c room w (by omega)
end Go.Proofs.Ytahojkpbjijckaa
