/- LogPrefix's walk. Printed by wip/gen/logprefix.py. -/
import Derived.Test.YtahojkpbjijckaaLogW
import Derived.Test.YtahojkpbjijckaaLogS
set_option linter.unusedVariables false
set_option linter.unusedSimpArgs false
namespace Go.Proofs.Ytahojkpbjijckaa
open Go.RowKit Go.Proofs.YtahojkpbjijckaaW.PrintWords Go.Proofs.YtahojkpbjijckaaW.PrintLast
theorem logB_count : ∀ (ms : List Msg), ms.length * 8 ≤ (logB ms).length
  | [] => by simp [logB]
  | m :: ms => by
    rw [logB_cons, List.length_append, recOf_len, List.length_cons]
    have := logB_count ms
    omega
section
variable {w0 w : World}
theorem px1 {L D A X B1 R : HP} (h : Hw w0 w (A * (B1 * (L * (D * (X * R)))))) : Hw w0 w (L * (D * (A * R))) := (h.as (Q := L * (D * (A * R)) * (X * B1)) (by ac_rfl)).left
theorem px2 {L D A X R : HP} (h : Hw w0 w (L * (D * (X * (A * R))))) : Hw w0 w (L * (D * (A * R))) := (h.as (Q := L * (D * (A * R)) * X) (by ac_rfl)).left
theorem px3 {L D A X R : HP} (h : Hw w0 w (X * (L * (D * (A * R))))) : Hw w0 w (L * (D * (X * (A * R)))) := h.as (by ac_rfl)
theorem px6 {L D A R : HP} (h : Hw w0 w (A * (L * (D * R)))) : Hw w0 w (L * (D * (A * R))) := h.as (by ac_rfl)
theorem px7 {L D X : HP} (h : Hw w0 w (L * (D * X))) : Hw w0 w (D * (L * X)) := h.as (by ac_rfl)
end
theorem addErr_full {m : Msg} (h : GoodM m) (len : Nat) (room : Int) (hz : addErr m len room ≠ 0) : addErr m len room = 3 := by
  unfold addErr at hz ⊢
  rw [if_pos (good_enc h)] at hz ⊢
  split
  · rfl
  · rename_i hn
    rw [if_neg hn] at hz
    exact absurd rfl hz
theorem kept_le (dur keep len : Int) (h0 : 0 ≤ dur) (h1 : dur ≤ len) : dur ≤ kept dur keep len ∧ kept dur keep len ≤ len := by
  unfold kept
  split
  · omega
  · split <;> omega
set_option maxHeartbeats 12800000 in
set_option maxRecDepth 100000 in
theorem logPrefix_ok (A0 : Option Addr) (n0 c0 : Nat) (la : List MH) (at0 keep : Int) (w : World) (hA : MsgsC w A0 n0 la) (hok : ∀ x ∈ la, MsgOk x.m) (hn0 : n0 * 160 ≤ 140737488351232) :
    Calls Try.prog 3 #[.slice A0 n0 c0, .int .i64 at0, .int .i64 keep] w fun e w' => e = .returned (.bool true) ∧ Below w.heap.size w w' := by
  have MA := Aside0.mk hA
  have OKA := Aside0.mk hok
  clear hA hok
  go_enter Try.func3, Try.ntmps3
  go_wp2_with fail
  refine (lawake_ok w).mono ?_
  rintro e w1 ⟨rfl, h1⟩
  have H1 := Aside0.mk ((Hw.start w).from_below h1)
  clear h1
  go_wp2_with fail
  refine (new_ok 100000 (by decide) (by decide) H1.out).mono ?_
  rintro e w2 ⟨p, rfl, h2⟩
  have H2 := Aside0.mk h2
  clear h2 H1
  go_wp2_with fail
  refine (lopen_logB [] (fun m hm => by simp at hm) (by decide) H2.out).mono ?_
  rintro e w3 ⟨q, Ao, no, co, lo, rfl, _, _, hno, _, _, h3⟩
  obtain rfl : no = 0 := hno
  have h3 := cut_move h3
  obtain ⟨R, hR⟩ : ∃ R, R = (crow 12 36 Ao 0 co (lo.flatMap mhC) * (msgsP lo * HP.emp)) := ⟨_, rfl⟩
  rw [← hR] at h3
  have H3 := Aside0.mk h3
  clear h3 H2 hR
  go_wp2_with fail
  go_loopw [34, 11, 12] (fun i va vs wr => ∃ (k n' s : Nat) (al : List MH) (A : Option Addr) (c : Nat) (dur : Int), k ≤ n0 ∧ s ≤ n' ∧ i = .int .i64 k ∧ va = .slice A n' c ∧ vs = .int .i64 s ∧ Aside0 (dur = ((logB ((al.map (·.m)).take s)).length : Int)) ∧ Aside0 (al.length = n') ∧ Aside0 (∀ x ∈ al, x.C w) ∧ Aside0 (∀ x ∈ al, GoodM x.m) ∧ Aside0 ((logB (al.map (·.m))).length ≤ 100000) ∧ Aside0 (Hw w wr (logP q p n' * (disk p (logB (al.map (·.m))) dur 100000 * (crow 12 36 A n' c (al.flatMap mhC) * R))))) (fun i _ _ _ => n0 - (intOf i).toNat)
  case atStart => exact ⟨0, 0, 0, [], none, 0, 0, Nat.zero_le _, Nat.le_refl _, rfl, rfl, rfl, ⟨by simp [logB]⟩, ⟨rfl⟩, ⟨fun x hx => by simp at hx⟩, ⟨fun x hx => by simp at hx⟩, ⟨by simp [logB]⟩, ⟨by
    have h := crow_none (sz := 12) (e := 36) (A := none) (n := 0) (cs := ([] : List MH).flatMap mhC) rfl rfl H3.out
    exact px6 h⟩⟩
  case round =>
    obtain ⟨k, n', s, al, A, c, dur, hk, hs, rfl, rfl, rfl, DU, AL, AI, AG, SZ, HW⟩ := hrel
    clear H3
    have hn8 : n' * 8 ≤ 100000 := by
      have h1 := logB_count (al.map (·.m))
      rw [List.length_map, AL.out] at h1
      have := SZ.out
      omega
    by_cases hlt : k < n0
    · have MW := Aside0.mk (MA.out.below HW.out.below)
      obtain ⟨ad, ⟨m, ⟨a1, b1, e1⟩, ⟨a2, b2, e2⟩, ⟨a3, b3, e3⟩, ⟨a4, b4, e4⟩⟩, rfl, hx, XC, QX⟩ := msgs_at MW.out k hlt
      have x0 := QX.out.c0
      have x1 := QX.out.c1
      have x2 := QX.out.c2
      have x3 := QX.out.c3
      have x4 := QX.out.c4
      have x5 := QX.out.c5
      have x6 := QX.out.c6
      have x7 := QX.out.c7
      have x8 := QX.out.c8
      have x9 := QX.out.c9
      have x10 := QX.out.c10
      have x11 := QX.out.c11
      have HX := Aside0.mk (HW.out.alloc (.cells #[.int .i64 0, .int .i64 0, .int .i64 0, .int .i64 0, .int .i64 0, .int .i64 0, .int .i64 0, .bool false, .slice none 0 0, .slice none 0 0, .slice none 0 0, .slice none 0 0] 36))
      have OX := Aside0.mk (OKA.out _ (List.mem_of_getElem? hx.out))
      clear QX
      go_wp2_with (refine Hw.store_row rfl 36 (.tmp 14) (.tmp 38) rfl wr.heap.size #[.int .i64 m.kind, .int .i64 m.src, .int .i64 m.dst, .int .i64 m.id, .int .i64 m.rev, .int .i64 m.epoch, .int .i64 m.slot, .bool m.flag, .slice a1 b1 e1, .slice a2 b2 e2, .slice a3 b3 e3, .slice a4 b4 e4] rfl rfl HX.out (by kernel_rfl) (by rfl) (by first | kernel_rfl | rfl | simp [Value.oneCell']) ?_; intro w4 H4; have y0 := H4.out.cellAt wr.heap.size 0 (v := .int .i64 m.kind) rfl; have y1 := H4.out.cellAt wr.heap.size 1 (v := .int .i64 m.src) rfl; have y2 := H4.out.cellAt wr.heap.size 2 (v := .int .i64 m.dst) rfl; have y3 := H4.out.cellAt wr.heap.size 3 (v := .int .i64 m.id) rfl; have y4 := H4.out.cellAt wr.heap.size 4 (v := .int .i64 m.rev) rfl; have y5 := H4.out.cellAt wr.heap.size 5 (v := .int .i64 m.epoch) rfl; have y6 := H4.out.cellAt wr.heap.size 6 (v := .int .i64 m.slot) rfl; have y7 := H4.out.cellAt wr.heap.size 7 (v := .bool m.flag) rfl; have y8 := H4.out.cellAt wr.heap.size 8 (v := .slice a1 b1 e1) rfl; have y9 := H4.out.cellAt wr.heap.size 9 (v := .slice a2 b2 e2) rfl; have y10 := H4.out.cellAt wr.heap.size 10 (v := .slice a3 b3 e3) rfl; have y11 := H4.out.cellAt wr.heap.size 11 (v := .slice a4 b4 e4) rfl)
      have H5 := Aside0.mk (px3 H4.out)
      have MX0 := Aside0.mk (MA.out.msg _ (List.mem_of_getElem? hx.out))
      refine (ladd_ok m a1 a2 a3 a4 b1 b2 b3 b4 e1 e2 e3 e4 (MX0.out.below H4.out.below) OX.out H5.out (by decide) (by decide) (by omega) (by omega)).mono ?_
      rintro e w5 ⟨rfl, h5⟩
      clear H4 H5 HX HW XC hx x0 x1 x2 x3 x4 x5 x6 x7 x8 x9 x10 x11 y0 y1 y2 y3 y4 y5 y6 y7 y8 y9 y10 y11
      by_cases hz : addErr m (logB (al.map (·.m))).length 100000 = 0
      · obtain ⟨g1, g2, g3, g4, g5⟩ := write_step OX.out hz (n' : Int) ((logB (al.map (·.m))).length : Int)
        rw [g2, g4] at h5
        rw [hz]
        have EM : (al ++ [(⟨m, (a1, b1, e1), (a2, b2, e2), (a3, b3, e3), (a4, b4, e4)⟩ : MH)]).map (·.m) = al.map (·.m) ++ [m] := by simp
        have DU2 := Aside0.mk (show dur = ((logB (((al ++ [(⟨m, (a1, b1, e1), (a2, b2, e2), (a3, b3, e3), (a4, b4, e4)⟩ : MH)]).map (·.m)).take s)).length : Int) by rw [EM, List.take_append_of_le_length (by rw [List.length_map, AL.out]; exact hs)]; exact DU.out)
        have DU3 := Aside0.mk (show ((logB ((al ++ [(⟨m, (a1, b1, e1), (a2, b2, e2), (a3, b3, e3), (a4, b4, e4)⟩ : MH)]).map (·.m))).length : Int) = ((logB (((al ++ [(⟨m, (a1, b1, e1), (a2, b2, e2), (a3, b3, e3), (a4, b4, e4)⟩ : MH)]).map (·.m)).take (n' + 1))).length : Int) by rw [List.take_of_length_le (by rw [List.length_map, List.length_append, AL.out]; exact Nat.le_refl _)])
        rw [← EM] at h5 g5
        have G1 := Aside0.mk g1
        have G5 := Aside0.mk (show (logB ((al ++ [(⟨m, (a1, b1, e1), (a2, b2, e2), (a3, b3, e3), (a4, b4, e4)⟩ : MH)]).map (·.m))).length ≤ 100000 by omega)
        have H6 := Aside0.mk h5
        have y0 := H6.out.cellAt wr.heap.size 0 (v := .int .i64 m.kind) rfl
        have y1 := H6.out.cellAt wr.heap.size 1 (v := .int .i64 m.src) rfl
        have y2 := H6.out.cellAt wr.heap.size 2 (v := .int .i64 m.dst) rfl
        have y3 := H6.out.cellAt wr.heap.size 3 (v := .int .i64 m.id) rfl
        have y4 := H6.out.cellAt wr.heap.size 4 (v := .int .i64 m.rev) rfl
        have y5 := H6.out.cellAt wr.heap.size 5 (v := .int .i64 m.epoch) rfl
        have y6 := H6.out.cellAt wr.heap.size 6 (v := .int .i64 m.slot) rfl
        have y7 := H6.out.cellAt wr.heap.size 7 (v := .bool m.flag) rfl
        have y8 := H6.out.cellAt wr.heap.size 8 (v := .slice a1 b1 e1) rfl
        have y9 := H6.out.cellAt wr.heap.size 9 (v := .slice a2 b2 e2) rfl
        have y10 := H6.out.cellAt wr.heap.size 10 (v := .slice a3 b3 e3) rfl
        have y11 := H6.out.cellAt wr.heap.size 11 (v := .slice a4 b4 e4) rfl
        have H10n := H6.out.alloc (.cells #[.int .i64 m.kind, .int .i64 m.src, .int .i64 m.dst, .int .i64 m.id, .int .i64 m.rev, .int .i64 m.epoch, .int .i64 m.slot, .bool m.flag, .slice a1 b1 e1, .slice a2 b2 e2, .slice a3 b3 e3, .slice a4 b4 e4] 36)
        have H10 := Aside0.mk (H10n.at (crow 12 36 A n' c (al.flatMap mhC)))
        have RDB := blk_cells H10n
        have AL2 := Aside0.mk (show (al ++ [(⟨m, (a1, b1, e1), (a2, b2, e2), (a3, b3, e3), (a4, b4, e4)⟩ : MH)]).length = n' + 1 by rw [List.length_append, AL.out]; rfl)
        have AI2 := Aside0.mk (show ∀ x ∈ al ++ [(⟨m, (a1, b1, e1), (a2, b2, e2), (a3, b3, e3), (a4, b4, e4)⟩ : MH)], x.C w from fun z hz => (List.mem_append.1 hz).elim (AI.out z) (fun hz => by rw [List.mem_singleton] at hz; subst hz; exact MX0.out))
        have AG2 := Aside0.mk (show ∀ x ∈ al ++ [(⟨m, (a1, b1, e1), (a2, b2, e2), (a3, b3, e3), (a4, b4, e4)⟩ : MH)], GoodM x.m from fun z hz => (List.mem_append.1 hz).elim (AG.out z) (fun hz => by rw [List.mem_singleton] at hz; subst hz; exact G1.out))
        clear h5 g1 g2 g3 g4 g5 EM hz H10n
        by_cases hd : (k : Int) = at0
        · have hd2 : ((k : Int) == at0) = true := by simpa using hd
          clear hd
          go_wp2_with (at_builtin; refine crow_append (news := [.int .i64 m.kind, .int .i64 m.src, .int .i64 m.dst, .int .i64 m.id, .int .i64 m.rev, .int .i64 m.epoch, .int .i64 m.slot, .bool m.flag, .slice a1 b1 e1, .slice a2 b2 e2, .slice a3 b3 e3, .slice a4 b4 e4]) (m := 1) (c := 1) rfl (.tmp 43) (.tmp 45) 22 (.agg #[.int .i64 0, .int .i64 0, .int .i64 0, .int .i64 0, .int .i64 0, .int .i64 0, .int .i64 0, .bool false, .slice none 0 0, .slice none 0 0, .slice none 0 0, .slice none 0 0]) 160 rfl Try.underlying22 Try.infoMsg rfl (by decide) rfl rfl H10.out rfl (by intro u hu; simp only [List.mem_cons, List.not_mem_nil, or_false] at hu; rcases hu with rfl | rfl | rfl | rfl | rfl | rfl | rfl | rfl | rfl | rfl | rfl | rfl <;> rfl) (fun _ => ⟨_, rfl, RDB⟩) (by decide) (by omega) ?_; intro A7 c7 w8 H11)
          have H12 : Aside0 (Hw w w8 (logP q p ((n' : Int) + 1) * (disk p (logB ((al ++ [(⟨m, (a1, b1, e1), (a2, b2, e2), (a3, b3, e3), (a4, b4, e4)⟩ : MH)]).map (·.m))) dur 100000 * (crow 12 36 A7 (n' + 1) c7 ((al ++ [(⟨m, (a1, b1, e1), (a2, b2, e2), (a3, b3, e3), (a4, b4, e4)⟩ : MH)]).flatMap mhC) * R)))) := ⟨by
            have h := H11.out
            rw [List.flatMap_append]
            exact px1 h⟩
          refine (lsync_ok H12.out).mono ?_
          rintro e w9 ⟨rfl, h9⟩
          rw [DU3.out] at h9
          have H9 := Aside0.mk h9
          clear RDB H10 H6 H11 H12 h9 y0 y1 y2 y3 y4 y5 y6 y7 y8 y9 y10 y11
          go_wp2_with fail
          clear hd2
          go_roundw
          case rel => exact ⟨k + 1, n' + 1, n' + 1, al ++ [(⟨m, (a1, b1, e1), (a2, b2, e2), (a3, b3, e3), (a4, b4, e4)⟩ : MH)], A7, c7, _, by omega, Nat.le_refl _, by go_num, rfl, by push_cast; rfl, ⟨rfl⟩, AL2, AI2, AG2, G5, ⟨H9.out⟩⟩
          case measure => simp [intOf]; omega
        · have hd2 : ((k : Int) == at0) = false := by simpa using hd
          clear hd
          go_wp2_with (at_builtin; refine crow_append (news := [.int .i64 m.kind, .int .i64 m.src, .int .i64 m.dst, .int .i64 m.id, .int .i64 m.rev, .int .i64 m.epoch, .int .i64 m.slot, .bool m.flag, .slice a1 b1 e1, .slice a2 b2 e2, .slice a3 b3 e3, .slice a4 b4 e4]) (m := 1) (c := 1) rfl (.tmp 43) (.tmp 45) 22 (.agg #[.int .i64 0, .int .i64 0, .int .i64 0, .int .i64 0, .int .i64 0, .int .i64 0, .int .i64 0, .bool false, .slice none 0 0, .slice none 0 0, .slice none 0 0, .slice none 0 0]) 160 rfl Try.underlying22 Try.infoMsg rfl (by decide) rfl rfl H10.out rfl (by intro u hu; simp only [List.mem_cons, List.not_mem_nil, or_false] at hu; rcases hu with rfl | rfl | rfl | rfl | rfl | rfl | rfl | rfl | rfl | rfl | rfl | rfl <;> rfl) (fun _ => ⟨_, rfl, RDB⟩) (by decide) (by omega) ?_; intro A7 c7 w8 H11)
          clear RDB H10 H6 y0 y1 y2 y3 y4 y5 y6 y7 y8 y9 y10 y11 hd2
          go_roundw
          case rel => exact ⟨k + 1, n' + 1, s, al ++ [(⟨m, (a1, b1, e1), (a2, b2, e2), (a3, b3, e3), (a4, b4, e4)⟩ : MH)], A7, c7, dur, by omega, by omega, by go_num, rfl, rfl, DU2, AL2, AI2, AG2, G5, ⟨by
            have h := H11.out
            rw [List.flatMap_append]
            exact px1 h⟩⟩
          case measure => simp [intOf]; omega
      · obtain ⟨g2, g3, g4⟩ := write_skip hz (n' : Int) ((logB (al.map (·.m))).length : Int)
        rw [g2, g4] at h5
        have hz2 : (addErr m (logB (al.map (·.m))).length 100000 == 0) = false := by simpa using hz
        have H6 := Aside0.mk (px2 h5)
        have DU3 := Aside0.mk (show ((logB (al.map (·.m))).length : Int) = ((logB ((al.map (·.m)).take n')).length : Int) by rw [List.take_of_length_le (by rw [List.length_map, AL.out]; exact Nat.le_refl _)])
        clear h5 g2 g3 g4 hz
        by_cases hd : (k : Int) = at0
        · have hd2 : ((k : Int) == at0) = true := by simpa using hd
          clear hd
          go_wp2_with fail
          refine (lsync_ok H6.out).mono ?_
          rintro e w9 ⟨rfl, h9⟩
          rw [DU3.out] at h9
          have H9 := Aside0.mk h9
          clear H6 h9
          go_wp2_with fail
          clear hd2 hz2
          go_roundw
          case rel => exact ⟨k + 1, n', n', al, A, c, _, by omega, Nat.le_refl _, by go_num, rfl, rfl, ⟨rfl⟩, AL, AI, AG, SZ, H9⟩
          case measure => simp [intOf]; omega
        · have hd2 : ((k : Int) == at0) = false := by simpa using hd
          clear hd
          go_wp2_with fail
          clear hz2 hd2
          go_roundw
          case rel => exact ⟨k + 1, n', s, al, A, c, dur, by omega, hs, by go_num, rfl, rfl, DU, AL, AI, AG, SZ, H6⟩
          case measure => simp [intOf]; omega
    · have hk2 : k = n0 := by omega
      subst hk2
      have GA := Aside0.mk (show ∀ m ∈ al.map (·.m), GoodM m from fun z hz => by obtain ⟨y, hy, rfl⟩ := List.mem_map.1 hz; exact AG.out y hy)
      have hdl : dur ≤ ((logB (al.map (·.m))).length : Int) := by rw [DU.out]; have := logB_take_le (al.map (·.m)) s; omega
      have CR := Aside0.mk (crash_ok p _ dur 100000 keep (px7 HW.out) (by rw [DU.out]; omega) hdl)
      obtain ⟨kd1, kd2⟩ := kept_le dur keep ((logB (al.map (·.m))).length : Int) (by rw [DU.out]; omega) hdl
      obtain ⟨j, hj⟩ : ∃ j, j = (kept dur keep ((logB (al.map (·.m))).length : Int)).toNat := ⟨_, rfl⟩
      rw [← hj] at CR
      have J1 : Aside0 (j ≤ (logB (al.map (·.m))).length) := ⟨by omega⟩
      have J2 : Aside0 ((logB ((al.map (·.m)).take s)).length ≤ j) := ⟨by have := DU.out; omega⟩
      clear hj kd1 kd2 hdl hlt
      go_wp2_with fail
      refine CR.out.mono ?_
      rintro e w4 ⟨rfl, h4⟩
      have H4 := Aside0.mk h4
      clear h4 CR HW DU
      obtain ⟨r, h1, h2, h3, OP⟩ := lopen_cut (al.map (·.m)) j GA.out J1.out (by have := SZ.out; omega) H4.out
      have hsr : s ≤ r := by
        rcases Nat.lt_or_ge r s with h | h
        · have g1 := h3 (by rw [List.length_map, AL.out]; omega)
          have g2 := logB_mono (al.map (·.m)) (r + 1) s (by omega)
          have g3 := J2.out
          omega
        · exact h
      have hrn : r ≤ n' := by rw [List.length_map, AL.out] at h1; exact h1
      have OP2 := Aside0.mk OP
      clear h1 h2 h3 OP
      go_wp2_with fail
      refine OP2.out.mono ?_
      rintro e w6 ⟨q2, A2, n2, c2, l2, rfl, hl, hn, hn2, hh, hn3, h6⟩
      have hr2 : ((al.map (·.m)).take r).length = r := by rw [List.length_take, List.length_map, AL.out]; omega
      rw [hr2] at hn2
      subst hn2
      have MS := Aside0.mk (cut_msgs h6 hn hn3 hh)
      have HL2 := Aside0.mk hl
      have H6 := Aside0.mk (cut_move h6)
      have MA6 := Aside0.mk (msgs_of (H6.out.at (crow 12 36 A n' c (al.flatMap mhC))) AL.out (by omega) (fun z hz => (AI.out z hz).below H6.out.below))
      have hjc : n2 ≤ c := by have := crow_le (H6.out.at (crow 12 36 A n' c (al.flatMap mhC))); omega
      have SM := Aside0.mk (msame_ok A2 n2 c2 l2 A n2 c (al.take n2) w6 MS.out (MA6.out.take n2 hrn))
      have hs1 : ¬ ((n2 : Int) < s) := by omega
      have hs2 : ¬ ((n' : Int) < n2) := by omega
      have R2 := Aside0.mk hr2
      clear hl hn hh h6 H4 OP2 hr2
      go_wp2_with fail
      refine SM.out.mono ?_
      rintro e w7 ⟨bb, rfl, hbb, hbel⟩
      obtain rfl : bb = true := hbb.2 (by rw [HL2.out, List.map_take])
      have H7 := Aside0.mk (H6.out.from_below hbel)
      clear hbb hbel SM MS MA6 H6
      go_wp2_with fail
      refine (lcount_ok H7.out).mono ?_
      rintro e w8 ⟨rfl, rfl⟩
      go_wp2_with fail
      have G99 := Aside0.mk (kindM_good 99 (by unfold i64r; omega))
      have GR := Aside0.mk (show ∀ m ∈ ((al.map (·.m)).take n2), GoodM m from fun z hz => GA.out z (List.mem_of_mem_take hz))
      have SR := Aside0.mk (show (logB ((al.map (·.m)).take n2)).length ≤ 100000 by have := logB_take_le (al.map (·.m)) n2; have := SZ.out; omega)
      refine (lwrite_ok (kindM 99) none none none none 0 0 0 0 0 0 0 0 (kindM_C _ 99) G99.out.ok H7.out (by decide) (by decide) (by omega) (by omega)).mono ?_
      rintro e w9 ⟨rfl, h9⟩
      clear H7 hs1 hs2
      by_cases hz : addErr (kindM 99) (logB ((al.map (·.m)).take n2)).length 100000 = 0
      · obtain ⟨g1, g2, g3, g4, g5⟩ := write_step G99.out.ok hz (n2 : Int) ((logB ((al.map (·.m)).take n2)).length : Int)
        rw [g2, g3, g4] at h9
        rw [hz]
        have H9 := Aside0.mk h9
        have S5 := Aside0.mk (show (logB (((al.map (·.m)).take n2) ++ [kindM 99])).length ≤ 1048576 by omega)
        clear h9 g1 g2 g3 g4 g5 hz
        go_wp2_with fail
        refine (lopen_logB (((al.map (·.m)).take n2) ++ [kindM 99]) (fun z hz => (List.mem_append.1 hz).elim (GR.out z) (fun hz => by rw [List.mem_singleton] at hz; subst hz; exact G99.out)) S5.out (px7 H9.out)).mono ?_
        rintro e w10 ⟨q3, A3, n3, c3, l3, rfl, hl, hn, hno, hh, hn4, h10⟩
        have MS := Aside0.mk (cut_msgs h10 hn hn4 hh)
        have hn5 : n3 = n2 + 1 := by rw [hno, List.length_append, R2.out]; rfl
        subst hn5
        obtain ⟨ad, x, rfl, hx, _, QX⟩ := msgs_at MS.out n2 (by omega)
        have hx99 : x.m = kindM 99 := by
          have h1 : (l3.map (·.m))[n2]? = some x.m := by rw [List.getElem?_map, hx.out]; rfl
          rw [hl, List.getElem?_append_right (by rw [R2.out]; exact Nat.le_refl _), R2.out, Nat.sub_self] at h1
          injection h1 with h1
          exact h1.symm
        have qc : w10.cell? (ad.add (n2 * 12)) = some (.int .i64 99) := by have := QX.out.c0; rw [hx99] at this; exact this
        have hbb : (n2 : Int) < (n2 : Int) + 1 := by omega
        have BF := Aside0.mk h10.below
        have WR := Aside0.mk (i64_in2 ((n2 : Int) + 1) (by omega) (by omega))
        obtain ⟨⟨hw1, hw2⟩⟩ := WR
        clear hl hn hno hh hn4 h10 MS hx QX hx99 H9
        go_wp2_with fail
        go_ret
        exact ⟨rfl, BF.out⟩
      · obtain ⟨g2, g3, g4⟩ := write_skip hz (n2 : Int) ((logB ((al.map (·.m)).take n2)).length : Int)
        rw [g2, g3, g4] at h9
        have he := addErr_full G99.out _ _ hz
        rw [he]
        have H9 := Aside0.mk h9
        clear h9 g2 g3 g4 hz he
        go_wp2_with fail
        refine (lopen_logB ((al.map (·.m)).take n2) GR.out (by have := SR.out; omega) (px7 H9.out)).mono ?_
        rintro e w10 ⟨q3, A3, n3, c3, l3, rfl, hl, hn, hno, hh, hn4, h10⟩
        have hn5 : n3 = n2 := by rw [hno, R2.out]
        subst hn5
        have BF := Aside0.mk h10.below
        clear hl hn hno hh hn4 h10 H9
        go_wp2_with fail
        go_ret
        exact ⟨rfl, BF.out⟩
theorem logPrefix_walk (A : Option Addr) (c : Nat) (ys : List TM0) (a k : Int) (w : World) (hC : KMsg.C w A ys.length ys) (hl : ys.length ≤ c) (hS : ys.length * 160 ≤ 140737488351232 ∧ ∀ y ∈ ys, sM0 y) (_ : (Lit.int .i64 a).wf = true) (_ : (Lit.int .i64 k).wf = true) :
    Calls Try.prog 3 #[.slice A ys.length c, .int .i64 a, .int .i64 k] w fun e w' => e = .returned (.bool true) ∧ Below w.heap.size w w' := by
  obtain ⟨l, h1, _, h3⟩ := msgs_args hC hS.2
  exact logPrefix_ok A _ c l a k w h1 h3 (by have := hS.1; omega)
end Go.Proofs.Ytahojkpbjijckaa
