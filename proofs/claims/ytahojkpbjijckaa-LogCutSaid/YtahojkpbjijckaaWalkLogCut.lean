/- LogCut's walk. Printed by wip/gen/logcut.py. -/
import Derived.Test.YtahojkpbjijckaaLogW
import Derived.Test.YtahojkpbjijckaaLogS
set_option linter.unusedVariables false
set_option linter.unusedSimpArgs false
namespace Go.Proofs.Ytahojkpbjijckaa
open Go.RowKit Go.Proofs.YtahojkpbjijckaaW.PrintWords Go.Proofs.YtahojkpbjijckaaW.PrintLast
/-- Where the records end. -/
def EndsOf (es : List Int) (ms : List Msg) : Prop := es.length = ms.length ∧ ∀ i, i < ms.length → es[i]? = some ((logB (ms.take (i + 1))).length : Int)
theorem EndsOf.snoc {es : List Int} {ms : List Msg} (h : EndsOf es ms) (m : Msg) : EndsOf (es ++ [((logB (ms ++ [m])).length : Int)]) (ms ++ [m]) := by
  refine ⟨by simp [h.1], fun i hi => ?_⟩
  rw [List.length_append] at hi
  by_cases hl : i < ms.length
  · rw [List.getElem?_append_left (by rw [h.1]; exact hl), h.2 i hl, List.take_append_of_le_length (by omega)]
  · have e : i = ms.length := by simp at hi; omega
    subst e
    rw [List.getElem?_append_right (by rw [h.1]; omega), h.1, Nat.sub_self, List.take_of_length_le (by simp)]
    rfl
theorem cut_same {ms : List Msg} {r j a : Nat} (h1 : r ≤ ms.length) (h2 : (logB (ms.take r)).length ≤ a) (h3 : r < ms.length → a < (logB (ms.take (r + 1))).length) (g1 : j ≤ ms.length) (g2 : (logB (ms.take j)).length ≤ a) (g3 : j < ms.length → a < (logB (ms.take (j + 1))).length) : r = j := by
  rcases Nat.lt_trichotomy r j with h | h | h
  · have := h3 (by omega)
    have := logB_mono ms (r + 1) j (by omega)
    omega
  · exact h
  · have := g3 (by omega)
    have := logB_mono ms (j + 1) r (by omega)
    omega
theorem logB_count : ∀ (ms : List Msg), ms.length * 8 ≤ (logB ms).length
  | [] => by simp [logB]
  | m :: ms => by
    rw [logB_cons, List.length_append, recOf_len, List.length_cons]
    have := logB_count ms
    omega
section
variable {w0 w : World}
theorem cx1 {L D A E X B1 B2 R : HP} (h : Hw w0 w (A * (B1 * (E * (B2 * (L * (D * (X * R)))))))) : Hw w0 w (L * (D * (A * (E * R)))) := (h.as (Q := L * (D * (A * (E * R))) * (X * (B1 * B2))) (by ac_rfl)).left
theorem cx2 {L D A E X R : HP} (h : Hw w0 w (L * (D * (X * (A * (E * R)))))) : Hw w0 w (L * (D * (A * (E * R)))) := (h.as (Q := L * (D * (A * (E * R))) * X) (by ac_rfl)).left
theorem cx3 {L D A E X R : HP} (h : Hw w0 w (X * (L * (D * (A * (E * R)))))) : Hw w0 w (L * (D * (X * (A * (E * R))))) := h.as (by ac_rfl)
end
set_option maxHeartbeats 12800000 in
set_option maxRecDepth 100000 in
theorem logCut_ok (A0 : Option Addr) (n0 c0 : Nat) (la : List MH) (at0 : Int) (w : World) (hA : MsgsC w A0 n0 la) (hok : ∀ x ∈ la, MsgOk x.m) (hn0 : n0 * 160 ≤ 140737488351232) :
    Calls Try.prog 4 #[.slice A0 n0 c0, .int .i64 at0] w fun e w' => e = .returned (.bool true) ∧ Below w.heap.size w w' := by
  have MA := Aside0.mk hA
  have OKA := Aside0.mk hok
  have LA := Aside0.mk hA.len
  clear hA hok
  go_enter Try.func4, Try.ntmps4
  go_wp2_with fail
  refine (lawake_ok w).mono ?_
  rintro e w1 ⟨rfl, h1⟩
  have H1 := Aside0.mk ((Hw.start w).from_below h1)
  clear h1
  go_wp2_with fail
  refine (new_ok 1048576 (by decide) (by decide) H1.out).mono ?_
  rintro e w2 ⟨p, rfl, h2⟩
  have H2 := Aside0.mk h2
  clear h2 H1
  go_wp2_with fail
  refine (lopen_logB [] (fun m hm => by simp at hm) (by decide) H2.out).mono ?_
  rintro e w3 ⟨q, Ao, no, co, lo, rfl, _, _, hno, _, _, h3⟩
  obtain rfl : no = 0 := hno
  have h3 := cut_move h3
  obtain ⟨R, hR⟩ : ∃ R, R = (crow 12 36 Ao 0 co (lo.flatMap mhC) * (msgsP lo * HP.emp)) := ⟨_, rfl⟩
  rw [← hR] at h3
  have H3 := Aside0.mk h3
  clear h3 H2 hR
  go_wp2_with fail
  go_loopw [31, 9, 10] (fun i ve va wr => ∃ (k n' : Nat) (al : List MH) (es : List Int) (A E : Option Addr) (c ce : Nat), k ≤ n0 ∧ n' ≤ k ∧ i = .int .i64 k ∧ ve = .slice E n' ce ∧ va = .slice A n' c ∧ Aside0 (al.length = n') ∧ Aside0 (∀ x ∈ al, x ∈ la) ∧ Aside0 (∀ x ∈ al, GoodM x.m) ∧ Aside0 (EndsOf es (al.map (·.m))) ∧ Aside0 ((logB (al.map (·.m))).length ≤ 1048576) ∧ Aside0 (Hw w wr (logP q p n' * (disk p (logB (al.map (·.m))) ((logB (al.map (·.m))).length : Int) 1048576 * (crow 12 36 A n' c (al.flatMap mhC) * (row (Kd.int .i64) 3 (.slice E n' ce) es * R)))))) (fun i _ _ _ => n0 - (intOf i).toNat)
  case atStart => exact ⟨0, 0, [], [], none, none, 0, 0, Nat.zero_le _, Nat.le_refl _, rfl, rfl, rfl, ⟨rfl⟩, ⟨fun x hx => by simp at hx⟩, ⟨fun x hx => by simp at hx⟩, ⟨⟨rfl, fun i hi => by simp at hi⟩⟩, ⟨by simp [logB]⟩, ⟨by
    have h := crow_none (sz := 12) (e := 36) (A := none) (n := 0) (cs := ([] : List MH).flatMap mhC) rfl rfl (H3.out.row_nil (Kd.int .i64) 3)
    exact h.as (by
      show _ = logP q p (0 : Nat) * (disk p (logB []) ((logB []).length : Int) 1048576 * (crow 12 36 none 0 0 (([] : List MH).flatMap mhC) * (row (Kd.int .i64) 3 (.slice none 0 0) [] * R)))
      ac_rfl)⟩⟩
  case round =>
    obtain ⟨k, n', al, es, A, E, c, ce, hk, hn', rfl, rfl, rfl, AL, AI, AG, EE, SZ, HW⟩ := hrel
    clear H3
    have hn8 : n' * 8 ≤ 1048576 := by
      have h1 := logB_count (al.map (·.m))
      rw [List.length_map, AL.out] at h1
      have := SZ.out
      omega
    by_cases hlt : k < n0
    · have MW := Aside0.mk (MA.out.below HW.out.below)
      obtain ⟨ad, ⟨m, ⟨a1, b1, e1⟩, ⟨a2, b2, e2⟩, ⟨a3, b3, e3⟩, ⟨a4, b4, e4⟩⟩, rfl, hx, XC, QX⟩ := msgs_at MW.out k hlt
      have x0 := QX.out.c0
      have x1 := QX.out.c1
      have x2 := QX.out.c2
      have x3 := QX.out.c3
      have x4 := QX.out.c4
      have x5 := QX.out.c5
      have x6 := QX.out.c6
      have x7 := QX.out.c7
      have x8 := QX.out.c8
      have x9 := QX.out.c9
      have x10 := QX.out.c10
      have x11 := QX.out.c11
      have HX := Aside0.mk (HW.out.alloc (.cells #[.int .i64 0, .int .i64 0, .int .i64 0, .int .i64 0, .int .i64 0, .int .i64 0, .int .i64 0, .bool false, .slice none 0 0, .slice none 0 0, .slice none 0 0, .slice none 0 0] 36))
      have OX := Aside0.mk (OKA.out _ (List.mem_of_getElem? hx.out))
      clear QX
      go_wp2_with (refine Hw.store_row rfl 36 (.tmp 12) (.tmp 34) rfl wr.heap.size #[.int .i64 m.kind, .int .i64 m.src, .int .i64 m.dst, .int .i64 m.id, .int .i64 m.rev, .int .i64 m.epoch, .int .i64 m.slot, .bool m.flag, .slice a1 b1 e1, .slice a2 b2 e2, .slice a3 b3 e3, .slice a4 b4 e4] rfl rfl HX.out (by kernel_rfl) (by rfl) (by first | kernel_rfl | rfl | simp [Value.oneCell']) ?_; intro w4 H4; have y0 := H4.out.cellAt wr.heap.size 0 (v := .int .i64 m.kind) rfl; have y1 := H4.out.cellAt wr.heap.size 1 (v := .int .i64 m.src) rfl; have y2 := H4.out.cellAt wr.heap.size 2 (v := .int .i64 m.dst) rfl; have y3 := H4.out.cellAt wr.heap.size 3 (v := .int .i64 m.id) rfl; have y4 := H4.out.cellAt wr.heap.size 4 (v := .int .i64 m.rev) rfl; have y5 := H4.out.cellAt wr.heap.size 5 (v := .int .i64 m.epoch) rfl; have y6 := H4.out.cellAt wr.heap.size 6 (v := .int .i64 m.slot) rfl; have y7 := H4.out.cellAt wr.heap.size 7 (v := .bool m.flag) rfl; have y8 := H4.out.cellAt wr.heap.size 8 (v := .slice a1 b1 e1) rfl; have y9 := H4.out.cellAt wr.heap.size 9 (v := .slice a2 b2 e2) rfl; have y10 := H4.out.cellAt wr.heap.size 10 (v := .slice a3 b3 e3) rfl; have y11 := H4.out.cellAt wr.heap.size 11 (v := .slice a4 b4 e4) rfl)
      have H5 := Aside0.mk (cx3 H4.out)
      have MX := Aside0.mk ((MA.out.msg _ (List.mem_of_getElem? hx.out)).below H4.out.below)
      have IX := Aside0.mk (List.mem_of_getElem? hx.out)
      refine (lwrite_ok m a1 a2 a3 a4 b1 b2 b3 b4 e1 e2 e3 e4 MX.out OX.out H5.out (by decide) (by decide) (by omega) (by omega)).mono ?_
      rintro e w5 ⟨rfl, h5⟩
      clear H4 H5 HX HW XC hx x0 x1 x2 x3 x4 x5 x6 x7 x8 x9 x10 x11 y0 y1 y2 y3 y4 y5 y6 y7 y8 y9 y10 y11
      by_cases hz : addErr m (logB (al.map (·.m))).length 1048576 = 0
      · obtain ⟨g1, g2, g3, g4, g5⟩ := write_step OX.out hz (n' : Int) ((logB (al.map (·.m))).length : Int)
        rw [g2, g3, g4] at h5
        rw [hz]
        have EM : (al ++ [(⟨m, (a1, b1, e1), (a2, b2, e2), (a3, b3, e3), (a4, b4, e4)⟩ : MH)]).map (·.m) = al.map (·.m) ++ [m] := by simp
        have EM2 := Aside0.mk EM
        rw [← EM] at h5 g5
        obtain ⟨sz, hsz⟩ : ∃ sz : Int, sz = ((logB ((al ++ [(⟨m, (a1, b1, e1), (a2, b2, e2), (a3, b3, e3), (a4, b4, e4)⟩ : MH)]).map (·.m))).length : Int) := ⟨_, rfl⟩
        have SN := Aside0.mk (show EndsOf (es ++ [sz]) ((al ++ [(⟨m, (a1, b1, e1), (a2, b2, e2), (a3, b3, e3), (a4, b4, e4)⟩ : MH)]).map (·.m)) by rw [hsz, EM]; exact EE.out.snoc m)
        have G1 := Aside0.mk g1
        have G5 := Aside0.mk (show (logB ((al ++ [(⟨m, (a1, b1, e1), (a2, b2, e2), (a3, b3, e3), (a4, b4, e4)⟩ : MH)]).map (·.m))).length ≤ 1048576 by omega)
        have H6 := Aside0.mk h5
        have HSZ := Aside0.mk hsz
        clear h5 g1 g2 g3 g4 g5 EM hz hsz
        go_wp2_with fail
        have SO := size_ok p _ _ _ (H6.out.as (HP.left_comm _ _ _))
        rw [← HSZ.out] at SO
        refine SO.mono ?_
        rintro e w6 ⟨rfl, hd⟩
        have H7 := Aside0.mk (H6.out.drawn hd)
        have H8 := Aside0.mk ((H7.out.alloc (.cells #[.int .i64 sz] 3)).atR (Kd.int .i64) 3 (.slice E n' ce))
        have HC8 := Aside0.mk (C_blk (enc := Value.int .i64) (h1 := fun _ => rfl) (xs := [sz]) (by simp) (H7.out.alloc (.cells #[.int .i64 sz] 3)).blk_at.1)
        have EL : Aside0 (es.length = n') := ⟨by rw [EE.out.1, List.length_map, AL.out]⟩
        clear H6 SO hd
        go_wp2_with (first | (at_builtin; refine Hw.append_int (k := .i64) rfl (.tmp 39) (.tmp 44) 31 3 8 rfl Try.underlying31 Try.infoInt (by decide) _ es [sz] _ 1 1 rfl rfl H8.out HC8.out (by rw [EL.out]; omega) (es ++ [sz]) rfl (n' + 1) (by rw [List.length_append, EL.out]; rfl) ?_; intro E2 ce2 w7 H9; have y0 := H9.out.cellAt wr.heap.size 0 (v := .int .i64 m.kind) rfl; have y1 := H9.out.cellAt wr.heap.size 1 (v := .int .i64 m.src) rfl; have y2 := H9.out.cellAt wr.heap.size 2 (v := .int .i64 m.dst) rfl; have y3 := H9.out.cellAt wr.heap.size 3 (v := .int .i64 m.id) rfl; have y4 := H9.out.cellAt wr.heap.size 4 (v := .int .i64 m.rev) rfl; have y5 := H9.out.cellAt wr.heap.size 5 (v := .int .i64 m.epoch) rfl; have y6 := H9.out.cellAt wr.heap.size 6 (v := .int .i64 m.slot) rfl; have y7 := H9.out.cellAt wr.heap.size 7 (v := .bool m.flag) rfl; have y8 := H9.out.cellAt wr.heap.size 8 (v := .slice a1 b1 e1) rfl; have y9 := H9.out.cellAt wr.heap.size 9 (v := .slice a2 b2 e2) rfl; have y10 := H9.out.cellAt wr.heap.size 10 (v := .slice a3 b3 e3) rfl; have y11 := H9.out.cellAt wr.heap.size 11 (v := .slice a4 b4 e4) rfl; have H10n := H9.out.alloc (.cells #[.int .i64 m.kind, .int .i64 m.src, .int .i64 m.dst, .int .i64 m.id, .int .i64 m.rev, .int .i64 m.epoch, .int .i64 m.slot, .bool m.flag, .slice a1 b1 e1, .slice a2 b2 e2, .slice a3 b3 e3, .slice a4 b4 e4] 36); have H10 := Aside0.mk (H10n.at (crow 12 36 A n' c (al.flatMap mhC))); have RDB := blk_cells H10n; clear H10n) |
          (at_builtin; refine crow_append (news := [.int .i64 m.kind, .int .i64 m.src, .int .i64 m.dst, .int .i64 m.id, .int .i64 m.rev, .int .i64 m.epoch, .int .i64 m.slot, .bool m.flag, .slice a1 b1 e1, .slice a2 b2 e2, .slice a3 b3 e3, .slice a4 b4 e4]) (m := 1) (c := 1) rfl (.tmp 46) (.tmp 48) 22 (.agg #[.int .i64 0, .int .i64 0, .int .i64 0, .int .i64 0, .int .i64 0, .int .i64 0, .int .i64 0, .bool false, .slice none 0 0, .slice none 0 0, .slice none 0 0, .slice none 0 0]) 160 rfl Try.underlying22 Try.infoMsg rfl (by decide) rfl rfl H10.out rfl (by intro u hu; simp only [List.mem_cons, List.not_mem_nil, or_false] at hu; rcases hu with rfl | rfl | rfl | rfl | rfl | rfl | rfl | rfl | rfl | rfl | rfl | rfl <;> rfl) (fun _ => ⟨_, rfl, RDB⟩) (by decide) (by omega) ?_; intro A7 c7 w8 H11))
        clear RDB H10 H9 HC8 H8 H7 y0 y1 y2 y3 y4 y5 y6 y7 y8 y9 y10 y11
        go_roundw
        case rel => exact ⟨k + 1, n' + 1, al ++ [(⟨m, (a1, b1, e1), (a2, b2, e2), (a3, b3, e3), (a4, b4, e4)⟩ : MH)], es ++ [sz], A7, E2, c7, ce2, by omega, by omega, by go_num, rfl, rfl, ⟨by rw [List.length_append, AL.out]; rfl⟩, ⟨fun z hz => (List.mem_append.1 hz).elim (AI.out z) (fun hz => by rw [List.mem_singleton] at hz; subst hz; exact IX.out)⟩, ⟨fun z hz => (List.mem_append.1 hz).elim (AG.out z) (fun hz => by rw [List.mem_singleton] at hz; subst hz; exact G1.out)⟩, SN, G5, ⟨by
          have h := H11.out
          rw [List.flatMap_append]
          exact cx1 h⟩⟩
        case measure => simp [intOf]; omega
      · obtain ⟨g2, g3, g4⟩ := write_skip hz (n' : Int) ((logB (al.map (·.m))).length : Int)
        rw [g2, g3, g4] at h5
        have hz2 : (addErr m (logB (al.map (·.m))).length 1048576 == 0) = false := by simpa using hz
        have H6 := Aside0.mk h5
        clear h5 g2 g3 g4 hz
        go_wp2_with fail
        clear hz2
        go_roundw
        case rel => exact ⟨k + 1, n', al, es, A, E, c, ce, by omega, by omega, by go_num, rfl, rfl, AL, AI, AG, EE, SZ, ⟨cx2 H6.out⟩⟩
        case measure => simp [intOf]; omega
    · have hk2 : k = n0 := by omega
      subst hk2
      obtain ⟨bl, hbl⟩ : ∃ bl, (logB (al.map (·.m))).length = bl := ⟨_, rfl⟩
      have BL := Aside0.mk hbl
      clear hbl hlt
      by_cases ha : 0 ≤ at0 ∧ at0 ≤ bl
      · obtain ⟨a, rfl⟩ : ∃ a : Nat, at0 = a := ⟨at0.toNat, by omega⟩
        have AL2 : Aside0 (a ≤ (logB (al.map (·.m))).length) := ⟨by rw [BL.out]; omega⟩
        have TR := Aside0.mk (truncate_ok p _ _ _ (a : Int) (HW.out.as (HP.left_comm _ _ _)) (by omega) (by have := AL2.out; omega))
        clear ha
        go_wp2_with fail
        refine TR.out.mono ?_
        rintro e w5 ⟨rfl, h5⟩
        rw [Int.toNat_natCast] at h5
        have H5 := Aside0.mk h5
        clear h5 TR HW
        go_wp2_with fail
        go_loopw [13] (fun i wr => ∃ j : Nat, j ≤ n' ∧ i = .int .i64 j ∧ w5 = wr ∧ Aside0 ((logB ((al.map (·.m)).take j)).length ≤ a)) (fun i _ => n' - (intOf i).toNat)
        case atStart => exact ⟨0, Nat.zero_le _, rfl, rfl, ⟨by simp [logB]⟩⟩
        case round =>
          obtain ⟨j, hj, rfl, rfl, G2⟩ := hrel
          by_cases hlt : j < n'
          · obtain ⟨ad, rfl, hcx, _, _⟩ := (H5.out.at (row (Kd.int .i64) 3 (.slice E n' ce) es)).row_int_at j ((logB ((al.map (·.m)).take (j + 1))).length : Int) (EE.out.2 j (by rw [List.length_map, AL.out]; exact hlt))
            obtain ⟨x, hx⟩ : ∃ x, x = (logB ((al.map (·.m)).take (j + 1))).length := ⟨_, rfl⟩
            rw [← hx] at hcx
            have HX := Aside0.mk hx
            clear hx
            by_cases hxa : x ≤ a
            · have G4 := Aside0.mk (show (logB ((al.map (·.m)).take (j + 1))).length ≤ a by rw [← HX.out]; exact hxa)
              go_wp2_with fail
              go_roundw
              case rel => exact ⟨j + 1, by omega, by go_num, trivial, G4⟩
              case measure => simp [intOf]; omega
            · have G3 : Aside0 (j < n' → a < (logB ((al.map (·.m)).take (j + 1))).length) := ⟨fun _ => by rw [← HX.out]; omega⟩
              have hxa2 : ¬ ((x : Int) ≤ a) := by omega
              have hx0 := hcx
              clear hxa
              go_wp2_with fail
              clear hxa2 hcx
              have hjc : j ≤ c := by have := crow_le (H5.out.at (crow 12 36 A n' c (al.flatMap mhC))); omega
              have HO := Aside0.mk (H5.out.at (disk p ((logB (al.map (·.m))).take a) ((((logB (al.map (·.m))).take a).length : Nat) : Int) 1048576))
              obtain ⟨r, h1, h2, h3, OP⟩ := lopen_cut (al.map (·.m)) a (fun z hz => by obtain ⟨y, hy, rfl⟩ := List.mem_map.1 hz; exact AG.out y hy) AL2.out SZ.out HO.out
              obtain rfl : r = j := cut_same h1 h2 h3 (by rw [List.length_map, AL.out]; exact hj) G2.out (by rw [List.length_map, AL.out]; exact G3.out)
              have OP2 := Aside0.mk OP
              clear h1 h2 h3 OP hx0
              go_wp2_with fail
              refine OP2.out.mono ?_
              rintro e w6 ⟨q2, A2, n2, c2, l2, rfl, hl, hn, hn2, hh, hn3, h6⟩
              have hr2 : ((al.map (·.m)).take r).length = r := by rw [List.length_take, List.length_map, AL.out]; omega
              rw [hr2] at hn2
              subst hn2
              have MS := Aside0.mk (cut_msgs h6 hn hn3 hh)
              have HL2 := Aside0.mk hl
              have H6 := Aside0.mk (cut_move h6)
              have MA6 := Aside0.mk (msgs_of ((H6.out.at (crow 12 36 A n' c (al.flatMap mhC)))) AL.out (by omega) (fun z hz => (MA.out.msg z (AI.out z hz)).below H6.out.below))
              have SM := Aside0.mk (msame_ok A2 n2 c2 l2 A n2 c (al.take n2) w6 MS.out (MA6.out.take n2 hj))
              have hlast : Aside0 (n2 = 0 ∨ ∃ b, n2 = b + 1) := ⟨(Nat.eq_zero_or_pos n2).elim .inl (fun h => .inr ⟨n2 - 1, by omega⟩)⟩
              clear hl hn hh hn3 h6 H5 HO OP2 hr2
              obtain ⟨sz, hsz⟩ : ∃ sz : Int, sz = ((logB ((al.map (·.m)).take n2)).length : Int) := ⟨_, rfl⟩
              have SZ6 := Aside0.mk hsz
              have fin : ∀ (W : World), True := fun _ => trivial
              rcases hlast.out with h0 | ⟨b, hb⟩
              · have e0 : sz = 0 := by rw [hsz, h0]; simp [logB]
                have d0 : decide ((0 : Int) < n2) = false := decide_eq_false (by omega)
                have d1 : decide (0 < n2) = false := decide_eq_false (by omega)
                have H00 := Aside0.mk h0
                clear hsz h0
                go_wp2_with fail
                refine SM.out.mono ?_
                rintro e w7 ⟨bb, rfl, hbb, hbel⟩
                obtain rfl : bb = true := hbb.2 (by rw [HL2.out, List.map_take])
                have H7 := Aside0.mk (H6.out.from_below hbel)
                clear hbb hbel SM MS MA6 H6
                go_wp2_with fail
                have SO := size_ok p _ _ _ (H7.out.at (disk p (logB ((al.map (·.m)).take n2)) ((logB ((al.map (·.m)).take n2)).length : Int) 1048576))
                rw [← SZ6.out] at SO
                refine SO.mono ?_
                rintro e w8 ⟨rfl, hd⟩
                have H8 := Aside0.mk (H7.out.drawn hd)
                clear SO hd H7
                go_wp2_with fail
                refine (lcount_ok H8.out).mono ?_
                rintro e w9 ⟨rfl, rfl⟩
                go_wp2_with fail
                go_ret
                exact ⟨rfl, H8.out.below⟩
              · obtain ⟨ad', e1, hcx, _, _⟩ := (H6.out.at (row (Kd.int .i64) 3 (.slice (some ad) n' ce) es)).row_int_at b ((logB ((al.map (·.m)).take (b + 1))).length : Int) (EE.out.2 b (by rw [List.length_map, AL.out]; omega))
                rw [← hb, ← hsz] at hcx
                have hbj : ((n2 : Int) - 1) = b := by omega
                have hw1 := (i64_in2 ((n2 : Int) - 1) (by omega) (by omega)).1
                have hw2 := (i64_in2 ((n2 : Int) - 1) (by omega) (by omega)).2
                have hb0 : (0 : Int) < n2 := by omega
                have hbn : (b : Int) < n' := by omega
                rw [hbj] at hw1 hw2
                clear hsz hb
                first | subst e1 | (injection e1 with e1; subst e1)
                go_wp2_with fail
                refine SM.out.mono ?_
                rintro e w7 ⟨bb, rfl, hbb, hbel⟩
                obtain rfl : bb = true := hbb.2 (by rw [HL2.out, List.map_take])
                have H7 := Aside0.mk (H6.out.from_below hbel)
                clear hbb hbel SM MS MA6 H6
                go_wp2_with fail
                have SO := size_ok p _ _ _ (H7.out.at (disk p (logB ((al.map (·.m)).take n2)) ((logB ((al.map (·.m)).take n2)).length : Int) 1048576))
                rw [← SZ6.out] at SO
                refine SO.mono ?_
                rintro e w8 ⟨rfl, hd⟩
                have H8 := Aside0.mk (H7.out.drawn hd)
                clear SO hd H7
                go_wp2_with fail
                refine (lcount_ok H8.out).mono ?_
                rintro e w9 ⟨rfl, rfl⟩
                go_wp2_with fail
                go_ret
                exact ⟨rfl, H8.out.below⟩
          · have G3 : Aside0 (j < n' → a < (logB ((al.map (·.m)).take (j + 1))).length) := ⟨fun h => absurd h hlt⟩
            have hx0 := hlt
            go_wp2_with fail
            have hjc : j ≤ c := by have := crow_le (H5.out.at (crow 12 36 A n' c (al.flatMap mhC))); omega
            have HO := Aside0.mk (H5.out.at (disk p ((logB (al.map (·.m))).take a) ((((logB (al.map (·.m))).take a).length : Nat) : Int) 1048576))
            obtain ⟨r, h1, h2, h3, OP⟩ := lopen_cut (al.map (·.m)) a (fun z hz => by obtain ⟨y, hy, rfl⟩ := List.mem_map.1 hz; exact AG.out y hy) AL2.out SZ.out HO.out
            obtain rfl : r = j := cut_same h1 h2 h3 (by rw [List.length_map, AL.out]; exact hj) G2.out (by rw [List.length_map, AL.out]; exact G3.out)
            have OP2 := Aside0.mk OP
            clear h1 h2 h3 OP hx0
            go_wp2_with fail
            refine OP2.out.mono ?_
            rintro e w6 ⟨q2, A2, n2, c2, l2, rfl, hl, hn, hn2, hh, hn3, h6⟩
            have hr2 : ((al.map (·.m)).take r).length = r := by rw [List.length_take, List.length_map, AL.out]; omega
            rw [hr2] at hn2
            subst hn2
            have MS := Aside0.mk (cut_msgs h6 hn hn3 hh)
            have HL2 := Aside0.mk hl
            have H6 := Aside0.mk (cut_move h6)
            have MA6 := Aside0.mk (msgs_of ((H6.out.at (crow 12 36 A n' c (al.flatMap mhC)))) AL.out (by omega) (fun z hz => (MA.out.msg z (AI.out z hz)).below H6.out.below))
            have SM := Aside0.mk (msame_ok A2 n2 c2 l2 A n2 c (al.take n2) w6 MS.out (MA6.out.take n2 hj))
            have hlast : Aside0 (n2 = 0 ∨ ∃ b, n2 = b + 1) := ⟨(Nat.eq_zero_or_pos n2).elim .inl (fun h => .inr ⟨n2 - 1, by omega⟩)⟩
            clear hl hn hh hn3 h6 H5 HO OP2 hr2
            obtain ⟨sz, hsz⟩ : ∃ sz : Int, sz = ((logB ((al.map (·.m)).take n2)).length : Int) := ⟨_, rfl⟩
            have SZ6 := Aside0.mk hsz
            have fin : ∀ (W : World), True := fun _ => trivial
            rcases hlast.out with h0 | ⟨b, hb⟩
            · have e0 : sz = 0 := by rw [hsz, h0]; simp [logB]
              have d0 : decide ((0 : Int) < n2) = false := decide_eq_false (by omega)
              have d1 : decide (0 < n2) = false := decide_eq_false (by omega)
              have H00 := Aside0.mk h0
              clear hsz h0
              go_wp2_with fail
              refine SM.out.mono ?_
              rintro e w7 ⟨bb, rfl, hbb, hbel⟩
              obtain rfl : bb = true := hbb.2 (by rw [HL2.out, List.map_take])
              have H7 := Aside0.mk (H6.out.from_below hbel)
              clear hbb hbel SM MS MA6 H6
              go_wp2_with fail
              have SO := size_ok p _ _ _ (H7.out.at (disk p (logB ((al.map (·.m)).take n2)) ((logB ((al.map (·.m)).take n2)).length : Int) 1048576))
              rw [← SZ6.out] at SO
              refine SO.mono ?_
              rintro e w8 ⟨rfl, hd⟩
              have H8 := Aside0.mk (H7.out.drawn hd)
              clear SO hd H7
              go_wp2_with fail
              refine (lcount_ok H8.out).mono ?_
              rintro e w9 ⟨rfl, rfl⟩
              go_wp2_with fail
              go_ret
              exact ⟨rfl, H8.out.below⟩
            · obtain ⟨ad', e1, hcx, _, _⟩ := (H6.out.at (row (Kd.int .i64) 3 (.slice E n' ce) es)).row_int_at b ((logB ((al.map (·.m)).take (b + 1))).length : Int) (EE.out.2 b (by rw [List.length_map, AL.out]; omega))
              rw [← hb, ← hsz] at hcx
              have hbj : ((n2 : Int) - 1) = b := by omega
              have hw1 := (i64_in2 ((n2 : Int) - 1) (by omega) (by omega)).1
              have hw2 := (i64_in2 ((n2 : Int) - 1) (by omega) (by omega)).2
              have hb0 : (0 : Int) < n2 := by omega
              have hbn : (b : Int) < n' := by omega
              rw [hbj] at hw1 hw2
              clear hsz hb
              first | subst e1 | (injection e1 with e1; subst e1)
              go_wp2_with fail
              refine SM.out.mono ?_
              rintro e w7 ⟨bb, rfl, hbb, hbel⟩
              obtain rfl : bb = true := hbb.2 (by rw [HL2.out, List.map_take])
              have H7 := Aside0.mk (H6.out.from_below hbel)
              clear hbb hbel SM MS MA6 H6
              go_wp2_with fail
              have SO := size_ok p _ _ _ (H7.out.at (disk p (logB ((al.map (·.m)).take n2)) ((logB ((al.map (·.m)).take n2)).length : Int) 1048576))
              rw [← SZ6.out] at SO
              refine SO.mono ?_
              rintro e w8 ⟨rfl, hd⟩
              have H8 := Aside0.mk (H7.out.drawn hd)
              clear SO hd H7
              go_wp2_with fail
              refine (lcount_ok H8.out).mono ?_
              rintro e w9 ⟨rfl, rfl⟩
              go_wp2_with fail
              go_ret
              exact ⟨rfl, H8.out.below⟩
      · have TR := Aside0.mk (truncate_bad p _ _ _ at0 (HW.out.as (HP.left_comm _ _ _)) (by rw [BL.out]; omega))
        by_cases ha0 : at0 < 0
        · clear ha
          go_wp2_with fail
          refine TR.out.mono ?_
          rintro e w5 ⟨rfl, hd⟩
          have B5 := Aside0.mk (HW.out.drawn hd).below
          clear hd TR
          go_wp2_with fail
          go_ret
          exact ⟨rfl, B5.out⟩
        · have ha1 : (bl : Int) < at0 := by omega
          clear ha
          go_wp2_with fail
          refine TR.out.mono ?_
          rintro e w5 ⟨rfl, hd⟩
          have H5 := Aside0.mk (HW.out.drawn hd)
          clear hd TR HW
          go_wp2_with fail
          have SO := size_ok p _ _ _ (H5.out.as (HP.left_comm _ _ _))
          rw [BL.out] at SO
          refine SO.mono ?_
          rintro e w6 ⟨rfl, hd⟩
          have B6 := Aside0.mk (H5.out.drawn hd).below
          clear hd SO
          go_wp2_with fail
          go_ret
          exact ⟨rfl, B6.out⟩
theorem logCut_walk (A : Option Addr) (c : Nat) (ys : List TM0) (a : Int) (w : World) (hC : KMsg.C w A ys.length ys) (hl : ys.length ≤ c) (hS : ys.length * 160 ≤ 140737488351232 ∧ ∀ y ∈ ys, sM0 y) (_ : (Lit.int .i64 a).wf = true) :
    Calls Try.prog 4 #[.slice A ys.length c, .int .i64 a] w fun e w' => e = .returned (.bool true) ∧ Below w.heap.size w w' := by
  obtain ⟨l, h1, _, h3⟩ := msgs_args hC hS.2
  exact logCut_ok A _ c l a w h1 h3 (by have := hS.1; omega)
end Go.Proofs.Ytahojkpbjijckaa
