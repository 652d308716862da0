/- WholeLogged's walk. Printed by wip/gen/wholelogged.py. -/
import Derived.Test.YtahojkpbjijckaaLogW
import Derived.Test.YtahojkpbjijckaaCK
set_option linter.unusedVariables false
set_option linter.unusedSimpArgs false
namespace Go.Proofs.Ytahojkpbjijckaa
open Go.RowKit Go.Proofs.YtahojkpbjijckaaW.PrintWords Go.Proofs.YtahojkpbjijckaaW.PrintLast
theorem logB_count : ∀ (ms : List Msg), ms.length * 8 ≤ (logB ms).length
  | [] => by simp [logB]
  | m :: ms => by
    rw [logB_cons, List.length_append, recOf_len, List.length_cons]
    have := logB_count ms
    omega
theorem kept_le (dur keep len : Int) (h0 : 0 ≤ dur) (h1 : dur ≤ len) : dur ≤ kept dur keep len ∧ kept dur keep len ≤ len := by
  unfold kept
  split
  · omega
  · split <;> omega
theorem cut_logB (ms : List Msg) (hg : ∀ m ∈ ms, GoodM m) : cutOf (logB ms) = (ms.map encMsg, (logB ms).length, 0) := by
  have h := cutOf_sealAll (ms.map encMsg) [] (fun x hx => by
    obtain ⟨m, hm, rfl⟩ := List.mem_map.1 hx
    exact ⟨encMsg_bytes m, (hg m hm).len⟩)
  have e : sealAll (ms.map encMsg) = logB ms := by unfold sealAll logB recOf; rw [List.map_map]; rfl
  rw [e, cutOf_nil, List.append_nil, List.append_nil] at h
  exact h
section
variable {w0 w : World}
theorem wx2 {L D X R : HP} (h : Hw w0 w (L * (D * (X * R)))) : Hw w0 w (L * (D * R)) := (h.as (Q := L * (D * R) * X) (by ac_rfl)).left
theorem wx3 {L D X R : HP} (h : Hw w0 w (X * (L * (D * R)))) : Hw w0 w (L * (D * (X * R))) := h.as (by ac_rfl)
theorem wx7 {L D X : HP} (h : Hw w0 w (L * (D * X))) : Hw w0 w (D * (L * X)) := h.as (by ac_rfl)
theorem wx8 {A P G : HP} (h : Hw w0 w (P * (A * G))) : Hw w0 w (A * P) := (h.as (Q := A * P * G) (by ac_rfl)).left
end
set_option maxHeartbeats 12800000 in
set_option maxRecDepth 100000 in
theorem wholeLogged_ok (A0 : Option Addr) (n0 c0 : Nat) (la : List MH) (at0 keep : Int) (w : World) (hA : MsgsC w A0 n0 la) (hok : ∀ x ∈ la, MsgOk x.m) (hn0 : n0 * 160 ≤ 140737488351232) :
    Calls Try.prog 11 #[.slice A0 n0 c0, .int .i64 at0, .int .i64 keep] w fun e w' => e = .returned (.bool true) ∧ Below w.heap.size w w' := by
  have MA := Aside0.mk hA
  have OKA := Aside0.mk hok
  have G1 := Aside0.mk (kindM_good 1 (by unfold i64r; omega))
  have R1 := Aside0.mk (show (recOf (kindM 1)).length = 20 by rw [recOf_len, kindM_len, encI_one 1 (by decide) (by decide)])
  clear hA hok
  go_enter Try.func11, Try.ntmps11
  go_wp2_with fail
  refine (new_ok 1048576 (by decide) (by decide) (Hw.start w)).mono ?_
  rintro e w2 ⟨p, rfl, h2⟩
  have H2 := Aside0.mk h2
  clear h2
  go_wp2_with fail
  refine (lopen_logB [] (fun m hm => by simp at hm) (by decide) H2.out).mono ?_
  rintro e w3 ⟨q, Ao, no, co, lo, rfl, _, _, hno, _, _, h3⟩
  obtain rfl : no = 0 := hno
  have h3 := cut_move h3
  obtain ⟨R, hR⟩ : ∃ R, R = (crow 12 36 Ao 0 co (lo.flatMap mhC) * (msgsP lo * HP.emp)) := ⟨_, rfl⟩
  rw [← hR] at h3
  have H3 := Aside0.mk h3
  clear h3 H2 hR
  go_wp2_with fail
  refine (lwrite_good (kindM 1) none none none none 0 0 0 0 0 0 0 0 (kindM_C _ 1) G1.out H3.out (by decide) (by decide) (by decide) (by decide) (by rw [R1.out]; decide)).mono ?_
  rintro e w4 ⟨rfl, h4⟩
  have H4 := Aside0.mk (show Hw w w4 (logP q p (1 : Nat) * (disk p (logB [kindM 1]) ((logB ([kindM 1].take 1)).length : Int) 1048576 * R)) from by
    have e : logB [] ++ recOf (kindM 1) = logB [kindM 1] := by simp [logB]
    rw [e] at h4
    exact h4)
  have S1 := Aside0.mk (show (logB [kindM 1]).length ≤ 1048576 by simp [logB, R1.out])
  clear h4 H3
  go_wp2_with fail
  go_loopw [46] (fun i wr => ∃ (k n' s : Nat) (ms : List Msg) (dur : Int), k ≤ n0 ∧ 1 ≤ s ∧ s ≤ n' ∧ i = .int .i64 k ∧ Aside0 (dur = ((logB (ms.take s)).length : Int)) ∧ Aside0 (ms.length = n') ∧ Aside0 (∀ m ∈ ms, GoodM m) ∧ Aside0 ((logB ms).length ≤ 1048576) ∧ Aside0 (Hw w wr (logP q p n' * (disk p (logB ms) dur 1048576 * R)))) (fun i _ => n0 - (intOf i).toNat)
  case atStart => exact ⟨0, 1, 1, [kindM 1], _, Nat.zero_le _, Nat.le_refl _, Nat.le_refl _, rfl, ⟨rfl⟩, ⟨rfl⟩, ⟨fun m hm => by rw [List.mem_singleton] at hm; subst hm; exact G1.out⟩, S1, H4⟩
  case round =>
    obtain ⟨k, n', s, ms, dur, hk, hs1, hs, rfl, DU, AL, AG, SZ, HW⟩ := hrel
    clear H4 S1
    have hn8 : n' * 8 ≤ 1048576 := by
      have h1 := logB_count ms
      rw [AL.out] at h1
      have := SZ.out
      omega
    by_cases hlt : k < n0
    · have MW := Aside0.mk (MA.out.below HW.out.below)
      obtain ⟨ad, ⟨m, ⟨a1, b1, e1⟩, ⟨a2, b2, e2⟩, ⟨a3, b3, e3⟩, ⟨a4, b4, e4⟩⟩, rfl, hx, XC, QX⟩ := msgs_at MW.out k hlt
      have x0 := QX.out.c0
      have x1 := QX.out.c1
      have x2 := QX.out.c2
      have x3 := QX.out.c3
      have x4 := QX.out.c4
      have x5 := QX.out.c5
      have x6 := QX.out.c6
      have x7 := QX.out.c7
      have x8 := QX.out.c8
      have x9 := QX.out.c9
      have x10 := QX.out.c10
      have x11 := QX.out.c11
      have HX := Aside0.mk (HW.out.alloc (.cells #[.int .i64 0, .int .i64 0, .int .i64 0, .int .i64 0, .int .i64 0, .int .i64 0, .int .i64 0, .bool false, .slice none 0 0, .slice none 0 0, .slice none 0 0, .slice none 0 0] 36))
      have OX := Aside0.mk (OKA.out _ (List.mem_of_getElem? hx.out))
      clear QX
      go_wp2_with (refine Hw.store_row rfl 36 (.tmp 12) (.tmp 50) rfl wr.heap.size #[.int .i64 m.kind, .int .i64 m.src, .int .i64 m.dst, .int .i64 m.id, .int .i64 m.rev, .int .i64 m.epoch, .int .i64 m.slot, .bool m.flag, .slice a1 b1 e1, .slice a2 b2 e2, .slice a3 b3 e3, .slice a4 b4 e4] rfl rfl HX.out (by kernel_rfl) (by rfl) (by first | kernel_rfl | rfl | simp [Value.oneCell']) ?_; intro w4 H4; have y0 := H4.out.cellAt wr.heap.size 0 (v := .int .i64 m.kind) rfl; have y1 := H4.out.cellAt wr.heap.size 1 (v := .int .i64 m.src) rfl; have y2 := H4.out.cellAt wr.heap.size 2 (v := .int .i64 m.dst) rfl; have y3 := H4.out.cellAt wr.heap.size 3 (v := .int .i64 m.id) rfl; have y4 := H4.out.cellAt wr.heap.size 4 (v := .int .i64 m.rev) rfl; have y5 := H4.out.cellAt wr.heap.size 5 (v := .int .i64 m.epoch) rfl; have y6 := H4.out.cellAt wr.heap.size 6 (v := .int .i64 m.slot) rfl; have y7 := H4.out.cellAt wr.heap.size 7 (v := .bool m.flag) rfl; have y8 := H4.out.cellAt wr.heap.size 8 (v := .slice a1 b1 e1) rfl; have y9 := H4.out.cellAt wr.heap.size 9 (v := .slice a2 b2 e2) rfl; have y10 := H4.out.cellAt wr.heap.size 10 (v := .slice a3 b3 e3) rfl; have y11 := H4.out.cellAt wr.heap.size 11 (v := .slice a4 b4 e4) rfl)
      have H5 := Aside0.mk (wx3 H4.out)
      have MX0 := Aside0.mk (MA.out.msg _ (List.mem_of_getElem? hx.out))
      refine (ladd_ok m a1 a2 a3 a4 b1 b2 b3 b4 e1 e2 e3 e4 (MX0.out.below H4.out.below) OX.out H5.out (by decide) (by decide) (by omega) (by omega)).mono ?_
      rintro e w5 ⟨rfl, h5⟩
      clear H4 H5 HX HW XC hx x0 x1 x2 x3 x4 x5 x6 x7 x8 x9 x10 x11 y0 y1 y2 y3 y4 y5 y6 y7 y8 y9 y10 y11
      have ST : ∃ ms2 n2 s2, Aside0 (s2 = n2) ∧ 1 ≤ n2 ∧ s ≤ n2 ∧ Aside0 (ms2.length = n2) ∧ Aside0 (∀ m ∈ ms2, GoodM m) ∧ Aside0 ((logB ms2).length ≤ 1048576) ∧ Aside0 (dur = ((logB (ms2.take s)).length : Int)) ∧ Aside0 (((logB ms2).length : Int) = ((logB (ms2.take s2)).length : Int)) ∧ Aside0 (Hw w w5 (logP q p (n2 : Nat) * (disk p (logB ms2) dur 1048576 * R))) := by
        by_cases hz : addErr m (logB ms).length 1048576 = 0
        · obtain ⟨g1, g2, g3, g4, g5⟩ := write_step OX.out hz (n' : Int) ((logB ms).length : Int)
          rw [g2, g4] at h5
          refine ⟨ms ++ [m], n' + 1, n' + 1, ⟨rfl⟩, by omega, by omega, ⟨by rw [List.length_append, AL.out]; rfl⟩, ⟨fun z hz => (List.mem_append.1 hz).elim (AG.out z) (fun hz => by rw [List.mem_singleton] at hz; subst hz; exact g1)⟩, ⟨by omega⟩, ⟨?_⟩, ⟨?_⟩, ⟨?_⟩⟩
          · rw [List.take_append_of_le_length (by rw [AL.out]; exact hs)]; exact DU.out
          · rw [List.take_of_length_le (by rw [List.length_append, AL.out]; exact Nat.le_refl _)]
          · have h := wx2 h5
            push_cast
            exact h
        · obtain ⟨g2, g3, g4⟩ := write_skip hz (n' : Int) ((logB ms).length : Int)
          rw [g2, g4] at h5
          exact ⟨ms, n', n', ⟨rfl⟩, by omega, hs, AL, AG, SZ, DU, ⟨by rw [List.take_of_length_le (by rw [AL.out]; exact Nat.le_refl _)]⟩, ⟨wx2 h5⟩⟩
      obtain ⟨ms2, n2, s2, hs2, h12, hs3, AL2, AG2, SZ2, DU2, DU3, H6⟩ := ST
      obtain ⟨ev, hev⟩ : ∃ ev, ev = addErr m (logB ms).length 1048576 := ⟨_, rfl⟩
      rw [← hev]
      clear h5 hev
      by_cases hd : (k : Int) = at0
      · have hd2 : ((k : Int) == at0) = true := by simpa using hd
        clear hd
        go_wp2_with fail
        refine (lsync_ok H6.out).mono ?_
        rintro e w9 ⟨rfl, h9⟩
        rw [DU3.out, hs2.out] at h9
        have H9 := Aside0.mk h9
        clear H6 h9
        go_wp2_with fail
        clear hd2
        go_roundw
        case rel => exact ⟨k + 1, n2, n2, ms2, _, by omega, h12, Nat.le_refl _, by go_num, ⟨rfl⟩, AL2, AG2, SZ2, H9⟩
        case measure => simp [intOf]; omega
      · have hd2 : ((k : Int) == at0) = false := by simpa using hd
        clear hd
        go_wp2_with fail
        clear hd2
        go_roundw
        case rel => exact ⟨k + 1, n2, s, ms2, dur, by omega, hs1, hs3, by go_num, DU2, AL2, AG2, SZ2, H6⟩
        case measure => simp [intOf]; omega
    · have hk2 : k = n0 := by omega
      subst hk2
      have hdl : dur ≤ ((logB ms).length : Int) := by rw [DU.out]; have := logB_take_le ms s; omega
      have CR := Aside0.mk (crash_ok p _ dur 1048576 keep (wx7 HW.out) (by rw [DU.out]; omega) hdl)
      obtain ⟨kd1, kd2⟩ := kept_le dur keep ((logB ms).length : Int) (by rw [DU.out]; omega) hdl
      obtain ⟨j, hj⟩ : ∃ j, j = (kept dur keep ((logB ms).length : Int)).toNat := ⟨_, rfl⟩
      rw [← hj] at CR
      have J1 : Aside0 (j ≤ (logB ms).length) := ⟨by omega⟩
      have J2 : Aside0 ((logB (ms.take s)).length ≤ j) := ⟨by have := DU.out; omega⟩
      clear hj kd1 kd2 hdl hlt
      go_wp2_with fail
      refine CR.out.mono ?_
      rintro e w4 ⟨rfl, h4⟩
      have H4 := Aside0.mk h4
      clear h4 CR HW DU
      obtain ⟨r, h1, h2, h3, OP⟩ := lopen_cut ms j AG.out J1.out (by have := SZ.out; omega) H4.out
      have hsr : 1 ≤ r := by
        rcases Nat.lt_or_ge r s with h | h
        · have g1 := h3 (by rw [AL.out]; omega)
          have g2 := logB_mono ms (r + 1) s (by omega)
          have g3 := J2.out
          omega
        · omega
      have hrn : r ≤ n' := by rw [AL.out] at h1; exact h1
      have OP2 := Aside0.mk OP
      clear h1 h2 h3 OP
      go_wp2_with fail
      refine OP2.out.mono ?_
      rintro e w6 ⟨q2, A2, n2, c2, l2, rfl, hl, hn, hn2, hh, hn3, h6⟩
      have hr2 : (ms.take r).length = r := by rw [List.length_take, AL.out]; omega
      rw [hr2] at hn2
      subst hn2
      have HL2 := Aside0.mk hl
      have HN := Aside0.mk hn
      have HH := Aside0.mk hh
      have HN3 := Aside0.mk hn3
      have H6 := Aside0.mk (wx7 (cut_move h6))
      have GR := Aside0.mk (show ∀ m ∈ (ms.take n2), GoodM m from fun z hz => AG.out z (List.mem_of_mem_take hz))
      have SR := Aside0.mk (show (logB (ms.take n2)).length ≤ 1048576 by have := logB_take_le ms n2; have := SZ.out; omega)
      have R2 := Aside0.mk hr2
      obtain ⟨bl, hbl⟩ : ∃ bl, (logB (ms.take n2)).length = bl := ⟨_, rfl⟩
      have BL := Aside0.mk hbl
      have hb20 : bl ≤ 1048576 := by rw [← hbl]; exact SR.out
      clear hl hn hh hn3 h6 H4 OP2 hr2 hbl
      go_wp2_with fail
      refine (bytes_n p _ _ _ bl BL.out (by omega) H6.out).mono ?_
      rintro e w7 ⟨A7, c7, rfl, hc7, h7⟩
      have H7 := Aside0.mk h7
      clear h7
      go_wp2_with fail
      refine (fcut_ok A7 bl c7 (logB (ms.take n2)) (by omega) hc7 H7.out (Ent.of_row (e := 5) (c := c7)) (logB_isB _)).mono ?_
      rw [cut_logB (ms.take n2) GR.out]
      rintro e w8 ⟨A8, n8, c8, hs8, rfl, h8⟩
      have hn8' : n2 = n8 := by
        obtain ⟨A', c', e1, _⟩ := rows_C h8
        injection e1 with _ e1 _
        rw [e1, List.length_map, R2.out]
      subst hn8'
      have H8 := Aside0.mk h8
      have hbl := BL.out
      rw [show (((ms.take n2).map encMsg, (logB (ms.take n2)).length, (0 : Int)) : List (List Int) × Nat × Int).2.1 = bl from hbl]
      clear h8 H7 hbl
      go_wp2_with fail
      have SO := size_ok p _ _ _ (H8.out.at (disk p (logB (ms.take n2)) ((logB (ms.take n2)).length : Int) 1048576))
      rw [BL.out] at SO
      refine SO.mono ?_
      rintro e w9 ⟨rfl, hd⟩
      have H9 := Aside0.mk (H8.out.drawn hd)
      have hge : ¬ ((n2 : Int) < 1) := by omega
      clear SO hd H8
      go_wp2_with fail
      obtain ⟨P0, hP0⟩ : ∃ P0, P0 = (row KHdr 42 (.slice A8 n2 c8) hs8 * (rowsHP (Kd.int .u8) 5 hs8 ((ms.take n2).map encMsg) * (row (Kd.int .u8) 5 (.slice A7 bl c7) (logB (ms.take n2)) * (disk p (logB (ms.take n2)) ((logB (ms.take n2)).length : Int) 1048576 * (logP q2 p n2 * (crow 12 36 A2 n2 c2 (l2.flatMap mhC) * (msgsP l2 * (logP q p n' * R)))))))) := ⟨_, rfl⟩
      have HP0 := Aside0.mk hP0
      rw [← hP0] at H9
      have H10 := Aside0.mk (H9.out.row_nil (Kd.int .u8) 5)
      clear hP0 hge H9
      go_loopw [101, 18] (fun i va wr => ∃ (k m0 : Nat) (A : Option Addr) (c : Nat), k ≤ n2 ∧ i = .int .i64 k ∧ va = .slice A m0 c ∧ Aside0 (m0 = (logB ((ms.take n2).take k)).length) ∧ Aside0 (Hw w wr (row (Kd.int .u8) 5 (.slice A m0 c) (logB ((ms.take n2).take k)) * P0))) (fun i _ _ => n2 - (intOf i).toNat)
      case atStart => exact ⟨0, 0, none, 0, Nat.zero_le _, rfl, rfl, ⟨by simp [logB]⟩, ⟨by simpa [logB] using H10.out⟩⟩
      case round =>
        obtain ⟨k, m0, A, c, hk, rfl, rfl, ML, HW⟩ := hrel
        clear H10
        have hm0 : m0 ≤ 1048576 := by have h1 := logB_take_le (ms.take n2) k; have := ML.out; have := SR.out; omega
        have HP := Aside0.mk (show Hw w wr (row KHdr 42 (.slice A8 n2 c8) hs8 * (rowsHP (Kd.int .u8) 5 hs8 ((ms.take n2).map encMsg) * (row (Kd.int .u8) 5 (.slice A7 bl c7) (logB (ms.take n2)) * (disk p (logB (ms.take n2)) ((logB (ms.take n2)).length : Int) 1048576 * (logP q2 p n2 * (crow 12 36 A2 n2 c2 (l2.flatMap mhC) * (msgsP l2 * (logP q p n' * R)))))))) from by have h := HW.out.right; rw [HP0.out] at h; exact h)
        by_cases hlt : k < n2
        · obtain ⟨m, hm⟩ : ∃ m, (ms.take n2)[k]? = some m := ⟨_, List.getElem?_eq_getElem (by rw [R2.out]; exact hlt)⟩
          obtain ⟨A8', c8', e2, hle2, hPC⟩ := rows_C HP.out
          injection e2 with e2 e3 e4
          subst e2
          obtain ⟨ad, A', c', x0, rfl, hcell, hxc, hx, hxC⟩ := C_row_at hPC k (by rw [List.length_map, R2.out]; exact hlt)
          obtain rfl : encMsg m = x0 := by
            have h := hx.out
            rw [List.getElem?_map, hm] at h
            injection h
          have GM := Aside0.mk (GR.out m (List.mem_of_getElem? hm))
          have HM := Aside0.mk hm
          have DE := Aside0.mk (decode_ok A' (encMsg m).length c' (encMsg m) wr hxC.out hxc (encMsg_bytes m))
          have XCC := Aside0.mk hxC.out
          obtain ⟨xl, hxl⟩ : ∃ xl, (encMsg m).length = xl := ⟨_, rfl⟩
          have XL := Aside0.mk hxl
          have hxl2 : xl ≤ 16384 := by rw [← hxl]; exact GM.out.len
          rw [hxl] at hcell DE hxc XCC
          clear hPC hle2 e3 e4 hx hxC hxl hm
          go_wp2_with fail
          refine DE.out.mono ?_
          rintro e w10 (⟨y, ⟨T1, p1, d1⟩, ⟨T2, p2, d2⟩, ⟨T3, p3, d3⟩, ⟨T4, p4, d4⟩, hr, hh, rfl, g⟩ | ⟨cc, hr, _⟩)
          · rw [dec_enc m GM.out.ok GM.out.fits GM.out.len] at hr
            obtain rfl : m = y := by injection hr
            have HY := Aside0.mk hh
            have XC10 := Aside0.mk (Kd.C_below XCC.out g.below)
            have H1 := Aside0.mk (HW.out.trans g)
            have H4b := Aside0.mk ((Hw.start w10).alloc (.cells #[.int .i64 0, .int .i64 0, .int .i64 0, .int .i64 0, .int .i64 0, .int .i64 0, .int .i64 0, .bool false, .slice none 0 0, .slice none 0 0, .slice none 0 0, .slice none 0 0] 36))
            clear hr hh g DE HW hcell HP
            go_wp2_with (refine Hw.store_row rfl 36 (.tmp 21) (.tmp 109) rfl w10.heap.size #[.int .i64 m.kind, .int .i64 m.src, .int .i64 m.dst, .int .i64 m.id, .int .i64 m.rev, .int .i64 m.epoch, .int .i64 m.slot, .bool m.flag, .slice T1 p1 d1, .slice T2 p2 d2, .slice T3 p3 d3, .slice T4 p4 d4] rfl rfl H4b.out (by kernel_rfl) (by rfl) (by first | kernel_rfl | rfl | simp [Value.oneCell']) ?_; intro w11 H5b)
            have XC11 := Aside0.mk (Kd.C_below XC10.out H5b.out.below)
            have H5 := Aside0.mk (H1.out.trans H5b.out)
            refine (fseal_ok A' xl c' (encMsg m) hxl2 hxc (Hw.start w11) (fun W hW => Kd.C_below XC11.out hW.below)).mono ?_
            rintro e w12 ⟨Bz, nz, cz, rfl, g2⟩
            have NZ := Aside0.mk (show nz = (recOf m).length from g2.row_C.1)
            have hnz : nz ≤ 16392 := by have := NZ.out; rw [recOf_len, XL.out] at this; omega
            have H7 := Aside0.mk (H5.out.trans g2)
            have H7d := Aside0.mk H7.out.drew
            have h12 := (H7.out.at P0).left
            rw [HP0.out] at h12
            have HP := Aside0.mk h12
            clear h12
            have MS := Aside0.mk (cut_msgs ((HP.out.at (msgsP l2)).at (crow 12 36 A2 n2 c2 (l2.flatMap mhC))) HN.out HN3.out HH.out)
            obtain ⟨ad2, x, e2, hx, XC, XA⟩ := msgs_at MS.out k hlt
            have EX := Aside0.mk (show x.m = m by
              have h1 : (l2.map (·.m))[k]? = some x.m := by rw [List.getElem?_map, hx.out]; rfl
              rw [HL2.out, HM.out] at h1
              injection h1 with h1
              exact h1.symm)
            have MT := Aside0.mk (msgC_of (t1 := (T1, p1, d1)) (t2 := (T2, p2, d2)) (t3 := (T3, p3, d3)) (t4 := (T4, p4, d4)) HY.out (H7.out.at (listsP m.nodes m.muts m.pre m.rows (T1, p1, d1) (T2, p2, d2) (T3, p3, d3) (T4, p4, d4))))
            have hd0 : Below w12.heap.size w12 w12.drew := (Hw.start w12).drew.below
            have qa := XA.out.below hd0
            have z0 := H7d.out.cellAt w10.heap.size 0 (v := .int .i64 m.kind) rfl
            have z1 := H7d.out.cellAt w10.heap.size 1 (v := .int .i64 m.src) rfl
            have z2 := H7d.out.cellAt w10.heap.size 2 (v := .int .i64 m.dst) rfl
            have z3 := H7d.out.cellAt w10.heap.size 3 (v := .int .i64 m.id) rfl
            have z4 := H7d.out.cellAt w10.heap.size 4 (v := .int .i64 m.rev) rfl
            have z5 := H7d.out.cellAt w10.heap.size 5 (v := .int .i64 m.epoch) rfl
            have z6 := H7d.out.cellAt w10.heap.size 6 (v := .int .i64 m.slot) rfl
            have z7 := H7d.out.cellAt w10.heap.size 7 (v := .bool m.flag) rfl
            have z8 := H7d.out.cellAt w10.heap.size 8 (v := .slice T1 p1 d1) rfl
            have z9 := H7d.out.cellAt w10.heap.size 9 (v := .slice T2 p2 d2) rfl
            have z10 := H7d.out.cellAt w10.heap.size 10 (v := .slice T3 p3 d3) rfl
            have z11 := H7d.out.cellAt w10.heap.size 11 (v := .slice T4 p4 d4) rfl
            clear H4b H5b H5 H1 XC11 XC10 XCC g2 H7d HP MS hx
            subst e2
            go_upto_region 25 with fail
            refine start_ (n := 15) (S := fun w' => w'.cell? ⟨w10.heap.size, 0, none⟩ = some (.int .i64 m.kind) ∧ w'.cell? ⟨w10.heap.size, 1, none⟩ = some (.int .i64 m.src) ∧ w'.cell? ⟨w10.heap.size, 2, none⟩ = some (.int .i64 m.dst) ∧ w'.cell? ⟨w10.heap.size, 3, none⟩ = some (.int .i64 m.id) ∧ w'.cell? ⟨w10.heap.size, 4, none⟩ = some (.int .i64 m.rev) ∧ w'.cell? ⟨w10.heap.size, 5, none⟩ = some (.int .i64 m.epoch) ∧ w'.cell? ⟨w10.heap.size, 6, none⟩ = some (.int .i64 m.slot) ∧ w'.cell? ⟨w10.heap.size, 7, none⟩ = some (.bool m.flag) ∧ w'.cell? ⟨w10.heap.size, 8, none⟩ = some (.slice T1 p1 d1) ∧ w'.cell? ⟨w10.heap.size, 9, none⟩ = some (.slice T2 p2 d2) ∧ w'.cell? ⟨w10.heap.size, 10, none⟩ = some (.slice T3 p3 d3) ∧ w'.cell? ⟨w10.heap.size, 11, none⟩ = some (.slice T4 p4 d4) ∧ w'.cell? (ad2.add (k * 12)) = some (.int .i64 x.m.kind) ∧ w'.cell? ⟨(ad2.add (k * 12)).block, (ad2.add (k * 12)).off + 1, none⟩ = some (.int .i64 x.m.src) ∧ w'.cell? ⟨(ad2.add (k * 12)).block, (ad2.add (k * 12)).off + 2, none⟩ = some (.int .i64 x.m.dst) ∧ w'.cell? ⟨(ad2.add (k * 12)).block, (ad2.add (k * 12)).off + 3, none⟩ = some (.int .i64 x.m.id) ∧ w'.cell? ⟨(ad2.add (k * 12)).block, (ad2.add (k * 12)).off + 4, none⟩ = some (.int .i64 x.m.rev) ∧ w'.cell? ⟨(ad2.add (k * 12)).block, (ad2.add (k * 12)).off + 5, none⟩ = some (.int .i64 x.m.epoch) ∧ w'.cell? ⟨(ad2.add (k * 12)).block, (ad2.add (k * 12)).off + 6, none⟩ = some (.int .i64 x.m.slot) ∧ w'.cell? ⟨(ad2.add (k * 12)).block, (ad2.add (k * 12)).off + 7, none⟩ = some (.bool x.m.flag) ∧ w'.cell? ⟨(ad2.add (k * 12)).block, (ad2.add (k * 12)).off + 8, none⟩ = some (.slice x.s1.1 x.s1.2.1 x.s1.2.2) ∧ w'.cell? ⟨(ad2.add (k * 12)).block, (ad2.add (k * 12)).off + 9, none⟩ = some (.slice x.s2.1 x.s2.2.1 x.s2.2.2) ∧ w'.cell? ⟨(ad2.add (k * 12)).block, (ad2.add (k * 12)).off + 10, none⟩ = some (.slice x.s3.1 x.s3.2.1 x.s3.2.2) ∧ w'.cell? ⟨(ad2.add (k * 12)).block, (ad2.add (k * 12)).off + 11, none⟩ = some (.slice x.s4.1 x.s4.2.1 x.s4.2.2)) (ds := []) #[false, false, false, false, false, false, false, false, false, false, false, false, false, false, false] (by kernel_rfl) rfl rfl ⟨z0, z1, z2, z3, z4, z5, z6, z7, z8, z9, z10, z11, qa.c0, qa.c1, qa.c2, qa.c3, qa.c4, qa.c5, qa.c6, qa.c7, qa.c8, qa.c9, qa.c10, qa.c11⟩ (fun hHeld => ?_)
            refine pure_ (i := 0) (N := some 116) (v := ?_) (a' := ?_) #[true, false, false, false, false, false, false, false, false, false, false, false, false, false, false] rfl rfl (by kernel_rfl) (fun _ _ _ h => h) (Or.inl ⟨by rfl, ?_⟩) ?_ ?_
            rotate_left
            · intro w'
              go_simp
              with_reducible rfl
            rotate_left
            · simp only [Act.put, List.setIfInBounds_toArray, List.set_cons_zero, List.set_cons_succ, i64_w, i32_w]
              rfl
            refine pure_ (i := 1) (N := some 117) (v := ?_) (a' := ?_) #[true, true, false, false, false, false, false, false, false, false, false, false, false, false, false] rfl rfl (by kernel_rfl) (fun _ _ _ h => h) (Or.inl ⟨by rfl, ?_⟩) ?_ ?_
            rotate_left
            · intro w'
              go_simp
              with_reducible rfl
            rotate_left
            · simp only [Act.put, List.setIfInBounds_toArray, List.set_cons_zero, List.set_cons_succ, i64_w, i32_w]
              rfl
            refine pure_ (i := 2) (N := some 118) (v := ?_) (a' := ?_) #[true, true, true, false, false, false, false, false, false, false, false, false, false, false, false] rfl rfl (by kernel_rfl) (fun _ _ _ h => h) (Or.inl ⟨by rfl, ?_⟩) ?_ ?_
            rotate_left
            · intro w'
              go_simp
              with_reducible rfl
            rotate_left
            · simp only [Act.put, List.setIfInBounds_toArray, List.set_cons_zero, List.set_cons_succ, i64_w, i32_w]
              rfl
            refine pure_ (i := 3) (N := some 119) (v := ?_) (a' := ?_) #[true, true, true, true, false, false, false, false, false, false, false, false, false, false, false] rfl rfl (by kernel_rfl) (fun _ _ _ h => h) (Or.inl ⟨by rfl, ?_⟩) ?_ ?_
            rotate_left
            · intro w'
              go_simp
              with_reducible rfl
            rotate_left
            · simp only [Act.put, List.setIfInBounds_toArray, List.set_cons_zero, List.set_cons_succ, i64_w, i32_w]
              rfl
            refine pure_ (i := 4) (N := some 120) (v := ?_) (a' := ?_) #[true, true, true, true, true, false, false, false, false, false, false, false, false, false, false] rfl rfl (by kernel_rfl) (fun _ _ _ h => h) (Or.inl ⟨by rfl, ?_⟩) ?_ ?_
            rotate_left
            · intro w'
              go_simp
              with_reducible rfl
            rotate_left
            · simp only [Act.put, List.setIfInBounds_toArray, List.set_cons_zero, List.set_cons_succ, i64_w, i32_w]
              rfl
            refine pure_ (i := 5) (N := some 121) (v := ?_) (a' := ?_) #[true, true, true, true, true, true, false, false, false, false, false, false, false, false, false] rfl rfl (by kernel_rfl) (fun _ _ _ h => h) (Or.inl ⟨by rfl, ?_⟩) ?_ ?_
            rotate_left
            · intro w'
              go_simp
              with_reducible rfl
            rotate_left
            · simp only [Act.put, List.setIfInBounds_toArray, List.set_cons_zero, List.set_cons_succ, i64_w, i32_w]
              rfl
            refine pure_ (i := 6) (N := some 122) (v := ?_) (a' := ?_) #[true, true, true, true, true, true, true, false, false, false, false, false, false, false, false] rfl rfl (by kernel_rfl) (fun _ _ _ h => h) (Or.inl ⟨by rfl, ?_⟩) ?_ ?_
            rotate_left
            · intro w'
              go_simp
              with_reducible rfl
            rotate_left
            · simp only [Act.put, List.setIfInBounds_toArray, List.set_cons_zero, List.set_cons_succ, i64_w, i32_w]
              rfl
            refine pure_ (i := 8) (N := some 124) (v := ?_) (a' := ?_) #[true, true, true, true, true, true, true, false, true, false, false, false, false, false, false] rfl rfl (by kernel_rfl) (fun _ _ _ h => h) (Or.inl ⟨by rfl, ?_⟩) ?_ ?_
            rotate_left
            · intro w'
              go_simp
              with_reducible rfl
            rotate_left
            · simp only [Act.put, List.setIfInBounds_toArray, List.set_cons_zero, List.set_cons_succ, i64_w, i32_w]
              rfl
            refine pure_ (i := 9) (N := some 125) (v := ?_) (a' := ?_) #[true, true, true, true, true, true, true, false, true, true, false, false, false, false, false] rfl rfl (by kernel_rfl) (fun _ _ _ h => h) (Or.inl ⟨by rfl, ?_⟩) ?_ ?_
            rotate_left
            · intro w'
              go_simp
              with_reducible rfl
            rotate_left
            · simp only [Act.put, List.setIfInBounds_toArray, List.set_cons_zero, List.set_cons_succ, i64_w, i32_w]
              rfl
            refine pure_ (i := 10) (N := some 126) (v := ?_) (a' := ?_) #[true, true, true, true, true, true, true, false, true, true, true, false, false, false, false] rfl rfl (by kernel_rfl) (fun _ _ _ h => h) (Or.inl ⟨by rfl, ?_⟩) ?_ ?_
            rotate_left
            · intro w'
              go_simp
              with_reducible rfl
            rotate_left
            · simp only [Act.put, List.setIfInBounds_toArray, List.set_cons_zero, List.set_cons_succ, i64_w, i32_w]
              rfl
            refine take_ (i := 7) (N := some 123) (v := ?_) (a' := ?_) #[true, true, true, true, true, true, true, true, true, true, true, false, false, false, false] rfl rfl (by kernel_rfl) (fun _ _ _ h => h) (Or.inl ⟨by rfl, ?_⟩) hHeld ?_ ?_
            rotate_left
            · rintro w' ⟨s0, s1, s2, s3, s4, s5, s6, s7, s8, s9, s10, s11, s12, s13, s14, s15, s16, s17, s18, s19, s20, s21, s22, s23⟩
              go_simp
              with_reducible rfl
            rotate_left
            · simp only [Act.put, List.setIfInBounds_toArray, List.set_cons_zero, List.set_cons_succ, i64_w, i32_w]
              rfl
            refine take_ (i := 11) (N := some 127) (v := ?_) (a' := ?_) #[true, true, true, true, true, true, true, true, true, true, true, true, false, false, false] rfl rfl (by kernel_rfl) (fun _ _ _ h => h) (Or.inl ⟨by rfl, ?_⟩) hHeld ?_ ?_
            rotate_left
            · rintro w' ⟨s0, s1, s2, s3, s4, s5, s6, s7, s8, s9, s10, s11, s12, s13, s14, s15, s16, s17, s18, s19, s20, s21, s22, s23⟩
              go_simp
              with_reducible rfl
            rotate_left
            · simp only [Act.put, List.setIfInBounds_toArray, List.set_cons_zero, List.set_cons_succ, i64_w, i32_w]
              rfl
            refine one_ (i := 12) (N := some 128) #[true, true, true, true, true, true, true, true, true, true, true, true, true, false, false] rfl rfl (by kernel_rfl) (by decide) (fun K hK => ?_)
            refine goes_ Try.func51 (by kernel_rfl) rfl #[.agg #[.int .i64 m.kind, .int .i64 m.src, .int .i64 m.dst, .int .i64 m.id, .int .i64 m.rev, .int .i64 m.epoch, .int .i64 m.slot, .bool m.flag, .slice T1 p1 d1, .slice T2 p2 d2, .slice T3 p3 d3, .slice T4 p4 d4], .agg #[.int .i64 x.m.kind, .int .i64 x.m.src, .int .i64 x.m.dst, .int .i64 x.m.id, .int .i64 x.m.rev, .int .i64 x.m.epoch, .int .i64 x.m.slot, .bool x.m.flag, .slice x.s1.1 x.s1.2.1 x.s1.2.2, .slice x.s2.1 x.s2.2.1 x.s2.2.2, .slice x.s3.1 x.s3.2.1 x.s3.2.2, .slice x.s4.1 x.s4.2.1 x.s4.2.2]] (by rfl) rfl rfl (by simp only [List.map_toArray, List.map_cons, List.map_nil]; rfl) ?_
            with_reducible refine (same_ok m.kind x.m.kind m.src x.m.src m.dst x.m.dst m.id x.m.id m.rev x.m.rev m.epoch x.m.epoch m.slot x.m.slot m.flag x.m.flag m.nodes x.m.nodes m.muts x.m.muts m.pre x.m.pre m.rows x.m.rows T1 T2 T3 T4 x.s1.1 x.s2.1 x.s3.1 x.s4.1 p1 p2 p3 p4 d1 d2 d3 d4 x.s1.2.1 x.s2.2.1 x.s3.2.1 x.s4.2.1 x.s1.2.2 x.s2.2.2 x.s3.2.2 x.s4.2.2 _ (MT.out.below hd0) (XC.out.below hd0)).mono ?_
            rintro e w8 ⟨bb, rfl, hbb, hbel⟩
            refine ⟨_, rfl, ?_⟩
            obtain rfl : bb = true := hbb.2 EX.out.symm
            have hd1 := hd0.trans (hbel.mono hd0.size)
            have H8 := Aside0.mk (H7.out.drew.from_below hbel)
            have v0 := H8.out.cellAt w10.heap.size 0 (v := .int .i64 m.kind) rfl
            have v1 := H8.out.cellAt w10.heap.size 1 (v := .int .i64 m.src) rfl
            have v2 := H8.out.cellAt w10.heap.size 2 (v := .int .i64 m.dst) rfl
            have v3 := H8.out.cellAt w10.heap.size 3 (v := .int .i64 m.id) rfl
            have v4 := H8.out.cellAt w10.heap.size 4 (v := .int .i64 m.rev) rfl
            have v5 := H8.out.cellAt w10.heap.size 5 (v := .int .i64 m.epoch) rfl
            have v6 := H8.out.cellAt w10.heap.size 6 (v := .int .i64 m.slot) rfl
            have v7 := H8.out.cellAt w10.heap.size 7 (v := .bool m.flag) rfl
            have v8 := H8.out.cellAt w10.heap.size 8 (v := .slice T1 p1 d1) rfl
            have v9 := H8.out.cellAt w10.heap.size 9 (v := .slice T2 p2 d2) rfl
            have v10 := H8.out.cellAt w10.heap.size 10 (v := .slice T3 p3 d3) rfl
            have v11 := H8.out.cellAt w10.heap.size 11 (v := .slice T4 p4 d4) rfl
            have qb := XA.out.below hd1
            refine hK.out _ _ ⟨v0, v1, v2, v3, v4, v5, v6, v7, v8, v9, v10, v11, qb.c0, qb.c1, qb.c2, qb.c3, qb.c4, qb.c5, qb.c6, qb.c7, qb.c8, qb.c9, qb.c10, qb.c11⟩ (fun hHeld => ?_)
            clear hK K
            refine norm_ (a' := ?_) ?_ ?_
            rotate_left
            · show Act.put _ (some 128) _ = _
              simp only [Act.put, List.setIfInBounds_toArray, List.set_cons_zero, List.set_cons_succ, i64_w, i32_w]
              rfl
            refine pure_ (i := 13) (N := some 129) (v := ?_) (a' := ?_) #[true, true, true, true, true, true, true, true, true, true, true, true, true, true, false] rfl rfl (by kernel_rfl) (fun _ _ _ h => h) (Or.inl ⟨by rfl, ?_⟩) ?_ ?_
            rotate_left
            · intro w'
              go_simp
              with_reducible rfl
            rotate_left
            · simp only [Act.put, List.setIfInBounds_toArray, List.set_cons_zero, List.set_cons_succ, i64_w, i32_w]
              rfl
            refine pure_ (i := 14) (N := some 130) (v := ?_) (a' := ?_) #[true, true, true, true, true, true, true, true, true, true, true, true, true, true, true] rfl rfl (by kernel_rfl) (fun _ _ _ h => h) (Or.inl ⟨by rfl, ?_⟩) ?_ ?_
            rotate_left
            · intro w'
              go_simp
              with_reducible rfl
            rotate_left
            · simp only [Act.put, List.setIfInBounds_toArray, List.set_cons_zero, List.set_cons_succ, i64_w, i32_w]
              rfl
            refine done_ (by kernel_rfl) ?_
            have H9 := Aside0.mk (H8.out.atR (Kd.int .u8) 5 (.slice A m0 c))
            have HR := Aside0.mk (H8.out.atR (Kd.int .u8) 5 (.slice Bz nz cz)).row_C.2.2
            have TK := Aside0.mk (show logB ((ms.take n2).take k) ++ sealOf (encMsg m) = logB ((ms.take n2).take (k + 1)) by rw [take_snoc_of HM.out, logB_snoc]; rfl)
            have ML2 := Aside0.mk (show m0 + nz = (logB ((ms.take n2).take (k + 1))).length by rw [← TK.out, List.length_append, ← ML.out, NZ.out]; rfl)
            clear hHeld hbel hd0 hd1 qa qb z0 z1 z2 z3 z4 z5 z6 z7 z8 z9 z10 z11 v0 v1 v2 v3 v4 v5 v6 v7 v8 v9 v10 v11 MT XC XA H7
            go_wp2_with (at_builtin; refine Hw.append_int (k := .u8) rfl (.tmp 131) (.tmp 132) 42 5 1 rfl Try.underlying42 Try.infoU8 (by decide) _ (logB ((ms.take n2).take k)) (sealOf (encMsg m)) Bz nz cz rfl rfl H9.out HR.out (by rw [← ML.out]; omega) (logB ((ms.take n2).take (k + 1))) TK.out (m0 + nz) ML2.out.symm ?_; intro A5 c5 w13 H11)
            clear H9 HR H8
            go_roundw
            case rel => exact ⟨k + 1, m0 + nz, A5, c5, by omega, by go_num, rfl, ML2, ⟨wx8 (H11.out.at P0)⟩⟩
            case measure => simp [intOf]; omega
          · rw [dec_enc m GM.out.ok GM.out.fits GM.out.len] at hr; cases hr
        · have hk3 : k = n2 := by omega
          have MX := Aside0.mk (show (ms.take n2).take k = (ms.take n2) by rw [List.take_of_length_le (by rw [R2.out]; omega)])
          rw [MX.out] at HW ML
          have hw0 := HW.out
          rw [HP0.out] at hw0
          have HD := Aside0.mk (hw0.drew.at (disk p (logB (ms.take n2)) ((logB (ms.take n2)).length : Int) 1048576))
          clear hw0
          obtain ⟨st, hst⟩ : ∃ st, st = strOfNums (logB (ms.take n2)) := ⟨_, rfl⟩
          have ST := Aside0.mk hst
          have CA := Aside0.mk (fun (W : World) (hW : Below wr.heap.size wr W) => show (convert 42 9 (.slice A m0 c)).run Try.prog W = .ok (.string st) W by
            rw [ST.out]; exact (HW.out.from_below hW).row_string Try.underlying42 Try.underlying5 Try.underlying9)
          have hd0 : Below wr.heap.size wr wr.drew := (Hw.start wr).drew.below
          have BY := Aside0.mk (bytes_n p _ _ _ bl BL.out (by omega) HD.out)
          have BW := Aside0.mk HW.out.below
          have ca := CA.out _ hd0
          clear hst HP
          subst hk3
          go_upto_region 29 with fail
          refine start_ (n := 9) (S := fun w' => (convert 42 9 (.slice A m0 c)).run Try.prog w' = .ok (.string st) w') (ds := []) #[false, false, false, false, false, false, false, false, false] (by kernel_rfl) rfl rfl (ca) (fun hHeld => ?_)
          refine pure_ (i := 0) (N := some 135) (v := ?_) (a' := ?_) #[true, false, false, false, false, false, false, false, false] rfl rfl (by kernel_rfl) (fun _ _ _ h => h) (Or.inl ⟨by rfl, ?_⟩) ?_ ?_
          rotate_left
          · intro w'
            go_simp
            with_reducible rfl
          rotate_left
          · simp only [Act.put, List.setIfInBounds_toArray, List.set_cons_zero, List.set_cons_succ, i64_w, i32_w]
            rfl
          refine pure_ (i := 2) (N := some 137) (v := ?_) (a' := ?_) #[true, false, true, false, false, false, false, false, false] rfl rfl (by kernel_rfl) (fun _ _ _ h => h) (Or.inl ⟨by rfl, ?_⟩) ?_ ?_
          rotate_left
          · intro w'
            go_simp
            with_reducible rfl
          rotate_left
          · simp only [Act.put, List.setIfInBounds_toArray, List.set_cons_zero, List.set_cons_succ, i64_w, i32_w]
            rfl
          refine pure_ (i := 3) (N := some 138) (v := ?_) (a' := ?_) #[true, false, true, true, false, false, false, false, false] rfl rfl (by kernel_rfl) (fun _ _ _ h => h) (Or.inl ⟨by rfl, ?_⟩) ?_ ?_
          rotate_left
          · intro w'
            go_simp
            with_reducible rfl
          rotate_left
          · simp only [Act.put, List.setIfInBounds_toArray, List.set_cons_zero, List.set_cons_succ, i64_w, i32_w]
            rfl
          refine pure_ (i := 4) (N := some 139) (v := ?_) (a' := ?_) #[true, false, true, true, true, false, false, false, false] rfl rfl (by kernel_rfl) (fun _ _ _ h => h) (Or.inl ⟨by rfl, ?_⟩) ?_ ?_
          rotate_left
          · intro w'
            go_simp
            with_reducible rfl
          rotate_left
          · simp only [Act.put, List.setIfInBounds_toArray, List.set_cons_zero, List.set_cons_succ, i64_w, i32_w]
            rfl
          refine take_ (i := 1) (N := some 136) (v := ?_) (a' := ?_) #[true, true, true, true, true, false, false, false, false] rfl rfl (by kernel_rfl) (fun _ _ _ h => h) (Or.inl ⟨by rfl, ?_⟩) hHeld ?_ ?_
          rotate_left
          · intro w' s0
            go_simp
            with_reducible rfl
          rotate_left
          · simp only [Act.put, List.setIfInBounds_toArray, List.set_cons_zero, List.set_cons_succ, i64_w, i32_w]
            rfl
          refine one_ (i := 5) (N := some 140) #[true, true, true, true, true, true, false, false, false] rfl rfl (by kernel_rfl) (by decide) (fun K hK => ?_)
          refine goes_ Try.func31 (by kernel_rfl) rfl #[.pointer (some ⟨p, 0, none⟩)] (by rfl) rfl rfl (by simp only [List.map_toArray, List.map_cons, List.map_nil]; rfl) ?_
          with_reducible refine (BY.out).mono ?_
          rintro e w9 ⟨A9, c9, rfl, hc9, h9⟩
          refine ⟨_, rfl, ?_⟩
          have H9 := Aside0.mk h9
          have cb : (convert 42 9 (.slice A9 bl c9)).run Try.prog w9 = .ok (.string st) w9 := by rw [ST.out]; exact h9.row_string Try.underlying42 Try.underlying5 Try.underlying9
          have cc : (convert 42 9 (.slice A m0 c)).run Try.prog w9 = .ok (.string st) w9 := by rw [ST.out]; exact (h9.atR (Kd.int .u8) 5 (.slice A m0 c)).row_string Try.underlying42 Try.underlying5 Try.underlying9
          clear h9
          refine hK.out _ _ (cc) (fun hHeld => ?_)
          clear hK K
          refine norm_ (a' := ?_) ?_ ?_
          rotate_left
          · show Act.put _ (some 140) _ = _
            simp only [Act.put, List.setIfInBounds_toArray, List.set_cons_zero, List.set_cons_succ, i64_w, i32_w]
            rfl
          refine one_ (i := 6) (N := some 141) #[true, true, true, true, true, true, true, false, false] rfl rfl (by kernel_rfl) (by decide) (fun K hK => ?_)
          refine value_ (w1 := ?_) (v := ?_) (by rfl) rfl ?_ ?_
          rotate_left 2
          · go_simp
            constructor
            · rfl
            · rfl
          refine hK.out _ _ (cc) (fun hHeld => ?_)
          clear hK K
          refine norm_ (a' := ?_) ?_ ?_
          rotate_left
          · show Act.put _ (some 141) _ = _
            simp only [Act.put, List.setIfInBounds_toArray, List.set_cons_zero, List.set_cons_succ, i64_w, i32_w]
            rfl
          refine pure_ (i := 7) (N := some 142) (v := ?_) (a' := ?_) #[true, true, true, true, true, true, true, true, false] rfl rfl (by kernel_rfl) (fun _ _ _ h => h) (Or.inl ⟨by rfl, ?_⟩) ?_ ?_
          rotate_left
          · intro w'
            go_simp
            with_reducible rfl
          rotate_left
          · simp only [Act.put, List.setIfInBounds_toArray, List.set_cons_zero, List.set_cons_succ, i64_w, i32_w]
            rfl
          refine pure_ (i := 8) (N := some 6) (v := ?_) (a' := ?_) #[true, true, true, true, true, true, true, true, true] rfl rfl (by kernel_rfl) (fun _ _ _ h => h) (Or.inl ⟨by rfl, ?_⟩) ?_ ?_
          rotate_left
          · intro w'
            go_simp
            with_reducible rfl
          rotate_left
          · simp only [Act.put, List.setIfInBounds_toArray, List.set_cons_zero, List.set_cons_succ, i64_w, i32_w]
            rfl
          refine done_ (by kernel_rfl) ?_
          go_wp2_with fail
          go_ret
          exact ⟨rfl, H9.out.below⟩
theorem wholeLogged_walk (A : Option Addr) (c : Nat) (ys : List TM0) (a k : Int) (w : World) (hC : KMsg.C w A ys.length ys) (hl : ys.length ≤ c) (hS : ys.length * 160 ≤ 140737488351232 ∧ ∀ y ∈ ys, sM0 y) (_ : (Lit.int .i64 a).wf = true) (_ : (Lit.int .i64 k).wf = true) :
    Calls Try.prog 11 #[.slice A ys.length c, .int .i64 a, .int .i64 k] w fun e w' => e = .returned (.bool true) ∧ Below w.heap.size w w' := by
  obtain ⟨l, h1, _, h3⟩ := msgs_args hC hS.2
  exact wholeLogged_ok A _ c l a k w h1 h3 (by have := hS.1; omega)
end Go.Proofs.Ytahojkpbjijckaa
