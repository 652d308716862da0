/- LogTwo's walk. Printed by wip/gen/logtwo.py. -/
import Derived.Test.YtahojkpbjijckaaLogW
import Derived.Test.YtahojkpbjijckaaLogS
set_option linter.unusedVariables false
set_option linter.unusedSimpArgs false
namespace Go.Proofs.Ytahojkpbjijckaa
open Go.RowKit Go.Proofs.YtahojkpbjijckaaW.PrintWords Go.Proofs.YtahojkpbjijckaaW.PrintLast
theorem logB_count : ∀ (ms : List Msg), ms.length * 8 ≤ (logB ms).length
  | [] => by simp [logB]
  | m :: ms => by
    rw [logB_cons, List.length_append, recOf_len, List.length_cons]
    have := logB_count ms
    omega
section
variable {w0 w : World}
theorem tx1 {L D A G X B1 R : HP} (h : Hw w0 w (A * (B1 * (L * (D * (X * (G * R))))))) : Hw w0 w (L * (D * (A * (G * R)))) := (h.as (Q := L * (D * (A * (G * R))) * (X * B1)) (by ac_rfl)).left
theorem tx2 {L D A G X R : HP} (h : Hw w0 w (L * (D * (X * (A * (G * R)))))) : Hw w0 w (L * (D * (A * (G * R)))) := (h.as (Q := L * (D * (A * (G * R))) * X) (by ac_rfl)).left
theorem tx3 {L D A X R : HP} (h : Hw w0 w (X * (L * (D * (A * R))))) : Hw w0 w (L * (D * (X * (A * R)))) := h.as (by ac_rfl)
theorem tx4 {L D A G N M R : HP} (h : Hw w0 w (L * (D * (N * (M * (A * (G * R))))))) : Hw w0 w (L * (D * (A * (G * R)))) := (h.as (Q := L * (D * (A * (G * R))) * (N * M)) (by ac_rfl)).left
theorem tx5 {L D X : HP} (h : Hw w0 w (L * (D * X))) : Hw w0 w (D * X) := (h.as (Q := D * X * L) (by ac_rfl)).left
theorem tx6 {D A G R : HP} (h : Hw w0 w (A * (G * (D * R)))) : Hw w0 w (D * (A * (G * R))) := h.as (by ac_rfl)
end
set_option maxHeartbeats 12800000 in
set_option maxRecDepth 100000 in
theorem logTwo_ok (A1 : Option Addr) (n1 c1 : Nat) (l1 : List MH) (A2 : Option Addr) (n2 c2 : Nat) (l2 : List MH) (w : World) (hA1 : MsgsC w A1 n1 l1) (ok1 : ∀ x ∈ l1, MsgOk x.m) (hn1 : n1 * 160 ≤ 140737488351232) (hA2 : MsgsC w A2 n2 l2) (ok2 : ∀ x ∈ l2, MsgOk x.m) (hn2 : n2 * 160 ≤ 140737488351232) :
    Calls Try.prog 7 #[.slice A1 n1 c1, .slice A2 n2 c2] w fun e w' => e = .returned (.bool true) ∧ Below w.heap.size w w' := by
  have M1 := Aside0.mk hA1
  have M2 := Aside0.mk hA2
  have O1 := Aside0.mk ok1
  have O2 := Aside0.mk ok2
  have N1 := Aside0.mk hn1
  have N2 := Aside0.mk hn2
  clear hA1 hA2 ok1 ok2 hn1 hn2
  go_enter Try.func7, Try.ntmps7
  go_wp2_with fail
  refine (lawake_ok w).mono ?_
  rintro e w1 ⟨rfl, h1⟩
  have H1 := Aside0.mk ((Hw.start w).from_below h1)
  clear h1
  go_wp2_with fail
  refine (new_ok 1048576 (by decide) (by decide) H1.out).mono ?_
  rintro e w2 ⟨p, rfl, h2⟩
  have H2 := Aside0.mk (h2.alloc (.cells #[.slice A1 n1 c1, .slice A2 n2 c2] 22))
  obtain ⟨g, hg⟩ : ∃ g, g = w2.heap.size := ⟨_, rfl⟩
  obtain ⟨R, hR⟩ : ∃ R, R = HP.emp := ⟨_, rfl⟩
  rw [← hR] at H2
  have H3 : Aside0 (Hw w (w2.alloc (.cells #[.slice A1 n1 c1, .slice A2 n2 c2] 22)) (disk p (logB (([] : List MH).map (·.m))) ((logB (([] : List MH).map (·.m))).length : Int) 1048576 * (crow 12 36 none 0 0 (([] : List MH).flatMap mhC) * (blk w2.heap.size (.cells #[.slice A1 n1 c1, .slice A2 n2 c2] 22) * R)))) :=
    ⟨tx6 (crow_none (sz := 12) (e := 36) (A := none) (n := 0) (cs := ([] : List MH).flatMap mhC) rfl rfl H2.out)⟩
  clear h2 H1 H2 hR
  go_wp2_with fail
  rw [← hg] at H3 ⊢
  clear hg
  go_loopw [28, 7] (fun i va wr => ∃ (i' n' : Nat) (al : List MH) (A : Option Addr) (c : Nat), i' ≤ 2 ∧ i = .int .i64 i' ∧ va = .slice A n' c ∧ Aside0 (al.length = n') ∧ Aside0 (∀ x ∈ al, x.C w) ∧ Aside0 (∀ x ∈ al, GoodM x.m) ∧ Aside0 ((logB (al.map (·.m))).length ≤ 1048576) ∧ Aside0 (Hw w wr (disk p (logB (al.map (·.m))) ((logB (al.map (·.m))).length : Int) 1048576 * (crow 12 36 A n' c (al.flatMap mhC) * (blk g (.cells #[.slice A1 n1 c1, .slice A2 n2 c2] 22) * R))))) (fun i _ _ => 2 - (intOf i).toNat)
  case atStart => exact ⟨0, 0, [], none, 0, by omega, rfl, rfl, ⟨rfl⟩, ⟨fun x hx => by simp at hx⟩, ⟨fun x hx => by simp at hx⟩, ⟨by simp [logB]⟩, H3⟩
  case round =>
    obtain ⟨i', n', al, A, c, hi', rfl, rfl, AL, AI, AG, SZ, HW⟩ := hrel
    clear H3
    have hn8 : n' * 8 ≤ 1048576 := by
      have h1 := logB_count (al.map (·.m))
      rw [List.length_map, AL.out] at h1
      have := SZ.out
      omega
    by_cases hlt2 : i' < 2
    · obtain ⟨A0, n0, c0, la, hc0, MA, OKA, N0⟩ : ∃ (A0 : Option Addr) (n0 c0 : Nat) (la : List MH), wr.cell? ((⟨g, 0, none⟩ : Addr).add i') = some (.slice A0 n0 c0) ∧ Aside0 (MsgsC w A0 n0 la) ∧ Aside0 (∀ x ∈ la, MsgOk x.m) ∧ Aside0 (n0 * 160 ≤ 140737488351232) := by
        rcases (show i' = 0 ∨ i' = 1 by omega) with rfl | rfl
        · exact ⟨A1, n1, c1, l1, HW.out.cellAt g 0 rfl, M1, O1, N1⟩
        · exact ⟨A2, n2, c2, l2, HW.out.cellAt g 1 rfl, M2, O2, N2⟩
      rw [Addr.add_lit, Nat.zero_add] at hc0
      have GA := Aside0.mk (show ∀ m ∈ al.map (·.m), GoodM m from fun z hz => by obtain ⟨y, hy, rfl⟩ := List.mem_map.1 hz; exact AG.out y hy)
      go_wp2_with fail
      refine (lopen_logB (al.map (·.m)) GA.out SZ.out HW.out).mono ?_
      rintro e w4 ⟨q, Ao, no, co, lo, rfl, hl, hn, hno, hh, hn3, h4⟩
      have MS := Aside0.mk (cut_msgs h4 hn hn3 hh)
      have HLo := Aside0.mk hl
      have H4 := Aside0.mk (tx4 (cut_move h4))
      have hno2 : no = n' := by rw [hno, List.length_map, AL.out]
      have MA4 := Aside0.mk (msgs_of (H4.out.at (crow 12 36 A n' c (al.flatMap mhC))) AL.out (by omega) (fun z hz => (AI.out z hz).below H4.out.below))
      rw [hno2] at MS H4
      have SM := Aside0.mk (msame_ok Ao n' co lo A n' c al w4 MS.out MA4.out)
      rw [hno2]
      clear h4 HW hl hn hno hh hn3 hno2 hc0 GA
      go_wp2_with fail
      refine SM.out.mono ?_
      rintro e w5 ⟨bb, rfl, hbb, hbel⟩
      obtain rfl : bb = true := hbb.2 HLo.out
      have H5 := Aside0.mk (H4.out.from_below hbel)
      obtain ⟨dur, hdur⟩ : ∃ d : Int, d = ((logB (al.map (·.m))).length : Int) := ⟨_, rfl⟩
      rw [← hdur] at H5
      have hm0 := MA.out.max
      clear hbb hbel SM MS MA4 H4 HLo hdur
      go_wp2_with fail
      go_loopw [47, 7] (fun j va wr => ∃ (k n' : Nat) (al : List MH) (A : Option Addr) (c : Nat) (dur : Int), k ≤ n0 ∧ j = .int .i64 k ∧ va = .slice A n' c ∧ Aside0 (al.length = n') ∧ Aside0 (∀ x ∈ al, x.C w) ∧ Aside0 (∀ x ∈ al, GoodM x.m) ∧ Aside0 ((logB (al.map (·.m))).length ≤ 1048576) ∧ Aside0 (Hw w wr (logP q p n' * (disk p (logB (al.map (·.m))) dur 1048576 * (crow 12 36 A n' c (al.flatMap mhC) * (blk g (.cells #[.slice A1 n1 c1, .slice A2 n2 c2] 22) * R)))))) (fun j _ _ => n0 - (intOf j).toNat)
      case atStart => exact ⟨0, n', al, A, c, dur, Nat.zero_le _, rfl, rfl, AL, AI, AG, SZ, H5⟩
      case round =>
        clear AL AI AG SZ hn8 H5
        obtain ⟨k, n', al, A, c, dur, hk, rfl, rfl, AL, AI, AG, SZ, HW⟩ := hrel
        have hn8 : n' * 8 ≤ 1048576 := by
          have h1 := logB_count (al.map (·.m))
          rw [List.length_map, AL.out] at h1
          have := SZ.out
          omega
        by_cases hlt : k < n0
        · have MW := Aside0.mk (MA.out.below HW.out.below)
          obtain ⟨ad, ⟨m, ⟨a1, b1, e1⟩, ⟨a2, b2, e2⟩, ⟨a3, b3, e3⟩, ⟨a4, b4, e4⟩⟩, rfl, hx, XC, QX⟩ := msgs_at MW.out k hlt
          have x0 := QX.out.c0
          have x1 := QX.out.c1
          have x2 := QX.out.c2
          have x3 := QX.out.c3
          have x4 := QX.out.c4
          have x5 := QX.out.c5
          have x6 := QX.out.c6
          have x7 := QX.out.c7
          have x8 := QX.out.c8
          have x9 := QX.out.c9
          have x10 := QX.out.c10
          have x11 := QX.out.c11
          have HX := Aside0.mk (HW.out.alloc (.cells #[.int .i64 0, .int .i64 0, .int .i64 0, .int .i64 0, .int .i64 0, .int .i64 0, .int .i64 0, .bool false, .slice none 0 0, .slice none 0 0, .slice none 0 0, .slice none 0 0] 36))
          have OX := Aside0.mk (OKA.out _ (List.mem_of_getElem? hx.out))
          clear QX
          go_wp2_with (refine Hw.store_row rfl 36 (.tmp 13) (.tmp 50) rfl wr.heap.size #[.int .i64 m.kind, .int .i64 m.src, .int .i64 m.dst, .int .i64 m.id, .int .i64 m.rev, .int .i64 m.epoch, .int .i64 m.slot, .bool m.flag, .slice a1 b1 e1, .slice a2 b2 e2, .slice a3 b3 e3, .slice a4 b4 e4] rfl rfl HX.out (by kernel_rfl) (by rfl) (by first | kernel_rfl | rfl | simp [Value.oneCell']) ?_; intro w4 H4; have y0 := H4.out.cellAt wr.heap.size 0 (v := .int .i64 m.kind) rfl; have y1 := H4.out.cellAt wr.heap.size 1 (v := .int .i64 m.src) rfl; have y2 := H4.out.cellAt wr.heap.size 2 (v := .int .i64 m.dst) rfl; have y3 := H4.out.cellAt wr.heap.size 3 (v := .int .i64 m.id) rfl; have y4 := H4.out.cellAt wr.heap.size 4 (v := .int .i64 m.rev) rfl; have y5 := H4.out.cellAt wr.heap.size 5 (v := .int .i64 m.epoch) rfl; have y6 := H4.out.cellAt wr.heap.size 6 (v := .int .i64 m.slot) rfl; have y7 := H4.out.cellAt wr.heap.size 7 (v := .bool m.flag) rfl; have y8 := H4.out.cellAt wr.heap.size 8 (v := .slice a1 b1 e1) rfl; have y9 := H4.out.cellAt wr.heap.size 9 (v := .slice a2 b2 e2) rfl; have y10 := H4.out.cellAt wr.heap.size 10 (v := .slice a3 b3 e3) rfl; have y11 := H4.out.cellAt wr.heap.size 11 (v := .slice a4 b4 e4) rfl)
          have H5 := Aside0.mk (tx3 H4.out)
          have MX0 := Aside0.mk (MA.out.msg _ (List.mem_of_getElem? hx.out))
          have MX := Aside0.mk (MX0.out.below H4.out.below)
          refine (ladd_ok m a1 a2 a3 a4 b1 b2 b3 b4 e1 e2 e3 e4 MX.out OX.out H5.out (by decide) (by decide) (by omega) (by omega)).mono ?_
          rintro e w5 ⟨rfl, h5⟩
          clear H4 H5 HX HW XC hx MX x0 x1 x2 x3 x4 x5 x6 x7 x8 x9 x10 x11 y0 y1 y2 y3 y4 y5 y6 y7 y8 y9 y10 y11
          by_cases hz : addErr m (logB (al.map (·.m))).length 1048576 = 0
          · obtain ⟨g1, g2, g3, g4, g5⟩ := write_step OX.out hz (n' : Int) ((logB (al.map (·.m))).length : Int)
            rw [g2, g4] at h5
            rw [hz]
            have EM : (al ++ [(⟨m, (a1, b1, e1), (a2, b2, e2), (a3, b3, e3), (a4, b4, e4)⟩ : MH)]).map (·.m) = al.map (·.m) ++ [m] := by simp
            rw [← EM] at h5 g5
            have G1 := Aside0.mk g1
            have G5 := Aside0.mk (show (logB ((al ++ [(⟨m, (a1, b1, e1), (a2, b2, e2), (a3, b3, e3), (a4, b4, e4)⟩ : MH)]).map (·.m))).length ≤ 1048576 by omega)
            have H6 := Aside0.mk h5
            have y0 := H6.out.cellAt wr.heap.size 0 (v := .int .i64 m.kind) rfl
            have y1 := H6.out.cellAt wr.heap.size 1 (v := .int .i64 m.src) rfl
            have y2 := H6.out.cellAt wr.heap.size 2 (v := .int .i64 m.dst) rfl
            have y3 := H6.out.cellAt wr.heap.size 3 (v := .int .i64 m.id) rfl
            have y4 := H6.out.cellAt wr.heap.size 4 (v := .int .i64 m.rev) rfl
            have y5 := H6.out.cellAt wr.heap.size 5 (v := .int .i64 m.epoch) rfl
            have y6 := H6.out.cellAt wr.heap.size 6 (v := .int .i64 m.slot) rfl
            have y7 := H6.out.cellAt wr.heap.size 7 (v := .bool m.flag) rfl
            have y8 := H6.out.cellAt wr.heap.size 8 (v := .slice a1 b1 e1) rfl
            have y9 := H6.out.cellAt wr.heap.size 9 (v := .slice a2 b2 e2) rfl
            have y10 := H6.out.cellAt wr.heap.size 10 (v := .slice a3 b3 e3) rfl
            have y11 := H6.out.cellAt wr.heap.size 11 (v := .slice a4 b4 e4) rfl
            have H10n := H6.out.alloc (.cells #[.int .i64 m.kind, .int .i64 m.src, .int .i64 m.dst, .int .i64 m.id, .int .i64 m.rev, .int .i64 m.epoch, .int .i64 m.slot, .bool m.flag, .slice a1 b1 e1, .slice a2 b2 e2, .slice a3 b3 e3, .slice a4 b4 e4] 36)
            have H10 := Aside0.mk (H10n.at (crow 12 36 A n' c (al.flatMap mhC)))
            have RDB := blk_cells H10n
            clear h5 g1 g2 g3 g4 g5 EM hz H10n
            go_wp2_with (at_builtin; refine crow_append (news := [.int .i64 m.kind, .int .i64 m.src, .int .i64 m.dst, .int .i64 m.id, .int .i64 m.rev, .int .i64 m.epoch, .int .i64 m.slot, .bool m.flag, .slice a1 b1 e1, .slice a2 b2 e2, .slice a3 b3 e3, .slice a4 b4 e4]) (m := 1) (c := 1) rfl (.tmp 55) (.tmp 57) 22 (.agg #[.int .i64 0, .int .i64 0, .int .i64 0, .int .i64 0, .int .i64 0, .int .i64 0, .int .i64 0, .bool false, .slice none 0 0, .slice none 0 0, .slice none 0 0, .slice none 0 0]) 160 rfl Try.underlying22 Try.infoMsg rfl (by decide) rfl rfl H10.out rfl (by intro u hu; simp only [List.mem_cons, List.not_mem_nil, or_false] at hu; rcases hu with rfl | rfl | rfl | rfl | rfl | rfl | rfl | rfl | rfl | rfl | rfl | rfl <;> rfl) (fun _ => ⟨_, rfl, RDB⟩) (by decide) (by omega) ?_; intro A7 c7 w8 H11)
            clear RDB H10 H6 y0 y1 y2 y3 y4 y5 y6 y7 y8 y9 y10 y11
            go_roundw
            case rel => exact ⟨k + 1, n' + 1, al ++ [(⟨m, (a1, b1, e1), (a2, b2, e2), (a3, b3, e3), (a4, b4, e4)⟩ : MH)], A7, c7, dur, by omega, by go_num, rfl, ⟨by rw [List.length_append, AL.out]; rfl⟩, ⟨fun z hz => (List.mem_append.1 hz).elim (AI.out z) (fun hz => by rw [List.mem_singleton] at hz; subst hz; exact MX0.out)⟩, ⟨fun z hz => (List.mem_append.1 hz).elim (AG.out z) (fun hz => by rw [List.mem_singleton] at hz; subst hz; exact G1.out)⟩, G5, ⟨by
              have h := H11.out
              rw [List.flatMap_append]
              exact tx1 h⟩⟩
            case measure => simp [intOf]; omega
          · obtain ⟨g2, g3, g4⟩ := write_skip hz (n' : Int) ((logB (al.map (·.m))).length : Int)
            rw [g2, g4] at h5
            have hz2 : (addErr m (logB (al.map (·.m))).length 1048576 == 0) = false := by simpa using hz
            have H6 := Aside0.mk h5
            clear h5 g2 g3 g4 hz
            go_wp2_with fail
            clear hz2
            go_roundw
            case rel => exact ⟨k + 1, n', al, A, c, dur, by omega, by go_num, rfl, AL, AI, AG, SZ, ⟨tx2 H6.out⟩⟩
            case measure => simp [intOf]; omega
        · have hk2 : k = n0 := by omega
          subst hk2
          go_wp2_with fail
          refine (lsync_ok HW.out).mono ?_
          rintro e w6 ⟨rfl, h6⟩
          have H6 := Aside0.mk (tx5 h6)
          clear h6 HW
          go_wp2_with fail
          go_roundw
          case rel => exact ⟨i' + 1, n', al, A, c, by omega, by go_num, rfl, AL, AI, AG, SZ, H6⟩
          case measure => simp [intOf]; omega
    · have GA := Aside0.mk (show ∀ m ∈ al.map (·.m), GoodM m from fun z hz => by obtain ⟨y, hy, rfl⟩ := List.mem_map.1 hz; exact AG.out y hy)
      go_wp2_with fail
      refine (lopen_logB (al.map (·.m)) GA.out SZ.out HW.out).mono ?_
      rintro e w4 ⟨q, Ao, no, co, lo, rfl, hl, hn, hno, hh, hn3, h4⟩
      have MS := Aside0.mk (cut_msgs h4 hn hn3 hh)
      have HLo := Aside0.mk hl
      have H4 := Aside0.mk (tx4 (cut_move h4))
      have MA4 := Aside0.mk (msgs_of (H4.out.at (crow 12 36 A n' c (al.flatMap mhC))) AL.out (by omega) (fun z hz => (AI.out z hz).below H4.out.below))
      have SM := Aside0.mk (msame_ok Ao no co lo A n' c al w4.drew (MS.out.below (Hw.start w4).drew.below) (MA4.out.below (Hw.start w4).drew.below))
      clear h4 HW hl hn hno hh hn3 GA MS MA4
      go_upto_region 22 with fail
      refine start_ (n := 15) (S := fun w' => True) (ds := []) #[false, false, false, false, false, false, false, false, false, false, false, false, false, false, false] (by kernel_rfl) rfl rfl trivial (fun hHeld => ?_)
      refine pure_ (i := 0) (N := some 68) (v := ?_) (a' := ?_) #[true, false, false, false, false, false, false, false, false, false, false, false, false, false, false] rfl rfl (by kernel_rfl) (fun _ _ _ h => h) (Or.inl ⟨by rfl, ?_⟩) ?_ ?_
      rotate_left
      · intro w'
        go_simp
        with_reducible rfl
      rotate_left
      · simp only [Act.put, List.setIfInBounds_toArray, List.set_cons_zero, List.set_cons_succ, i64_w, i32_w]
        rfl
      refine pure_ (i := 1) (N := some 69) (v := ?_) (a' := ?_) #[true, true, false, false, false, false, false, false, false, false, false, false, false, false, false] rfl rfl (by kernel_rfl) (fun _ _ _ h => h) (Or.inl ⟨by rfl, ?_⟩) ?_ ?_
      rotate_left
      · intro w'
        go_simp
        with_reducible rfl
      rotate_left
      · simp only [Act.put, List.setIfInBounds_toArray, List.set_cons_zero, List.set_cons_succ, i64_w, i32_w]
        rfl
      refine one_ (i := 2) (N := some 70) #[true, true, true, false, false, false, false, false, false, false, false, false, false, false, false] rfl rfl (by kernel_rfl) (by decide) (fun K hK => ?_)
      refine goes_ Try.func19 (by kernel_rfl) rfl #[.slice Ao no co, .slice A n' c] (by rfl) rfl rfl (by simp only [List.map_toArray, List.map_cons, List.map_nil]; rfl) ?_
      with_reducible refine (SM.out).mono ?_
      rintro e w5 ⟨bb, rfl, hbb, hbel⟩
      refine ⟨_, rfl, ?_⟩
      obtain rfl : bb = true := hbb.2 HLo.out
      have H5 := Aside0.mk (H4.out.drew.from_below hbel)
      clear hbb hbel
      refine hK.out _ _ trivial (fun hHeld => ?_)
      clear hK K
      refine norm_ (a' := ?_) ?_ ?_
      rotate_left
      · show Act.put _ (some 70) _ = _
        simp only [Act.put, List.setIfInBounds_toArray, List.set_cons_zero, List.set_cons_succ, i64_w, i32_w]
        rfl
      refine pure_ (i := 3) (N := some 71) (v := ?_) (a' := ?_) #[true, true, true, true, false, false, false, false, false, false, false, false, false, false, false] rfl rfl (by kernel_rfl) (fun _ _ _ h => h) (Or.inl ⟨by rfl, ?_⟩) ?_ ?_
      rotate_left
      · intro w'
        go_simp
        with_reducible rfl
      rotate_left
      · simp only [Act.put, List.setIfInBounds_toArray, List.set_cons_zero, List.set_cons_succ, i64_w, i32_w]
        rfl
      refine pure_ (i := 4) (N := some 72) (v := ?_) (a' := ?_) #[true, true, true, true, true, false, false, false, false, false, false, false, false, false, false] rfl rfl (by kernel_rfl) (fun _ _ _ h => h) (Or.inl ⟨by rfl, ?_⟩) ?_ ?_
      rotate_left
      · intro w'
        go_simp
        with_reducible rfl
      rotate_left
      · simp only [Act.put, List.setIfInBounds_toArray, List.set_cons_zero, List.set_cons_succ, i64_w, i32_w]
        rfl
      refine pure_ (i := 5) (N := some 73) (v := ?_) (a' := ?_) #[true, true, true, true, true, true, false, false, false, false, false, false, false, false, false] rfl rfl (by kernel_rfl) (fun _ _ _ h => h) (Or.inl ⟨by rfl, ?_⟩) ?_ ?_
      rotate_left
      · intro w'
        go_simp
        with_reducible rfl
      rotate_left
      · simp only [Act.put, List.setIfInBounds_toArray, List.set_cons_zero, List.set_cons_succ, i64_w, i32_w]
        rfl
      refine pure_ (i := 6) (N := some 74) (v := ?_) (a' := ?_) #[true, true, true, true, true, true, true, false, false, false, false, false, false, false, false] rfl rfl (by kernel_rfl) (fun _ _ _ h => h) (Or.inl ⟨by rfl, ?_⟩) ?_ ?_
      rotate_left
      · intro w'
        go_simp
        with_reducible rfl
      rotate_left
      · simp only [Act.put, List.setIfInBounds_toArray, List.set_cons_zero, List.set_cons_succ, i64_w, i32_w]
        rfl
      refine pure_ (i := 8) (N := some 76) (v := ?_) (a' := ?_) #[true, true, true, true, true, true, true, false, true, false, false, false, false, false, false] rfl rfl (by kernel_rfl) (fun _ _ _ h => h) (Or.inl ⟨by rfl, ?_⟩) ?_ ?_
      rotate_left
      · intro w'
        go_simp
        with_reducible rfl
      rotate_left
      · simp only [Act.put, List.setIfInBounds_toArray, List.set_cons_zero, List.set_cons_succ, i64_w, i32_w]
        rfl
      refine pure_ (i := 9) (N := some 77) (v := ?_) (a' := ?_) #[true, true, true, true, true, true, true, false, true, true, false, false, false, false, false] rfl rfl (by kernel_rfl) (fun _ _ _ h => h) (Or.inl ⟨by rfl, ?_⟩) ?_ ?_
      rotate_left
      · intro w'
        go_simp
        with_reducible rfl
      rotate_left
      · simp only [Act.put, List.setIfInBounds_toArray, List.set_cons_zero, List.set_cons_succ, i64_w, i32_w]
        rfl
      refine pure_ (i := 10) (N := some 78) (v := ?_) (a' := ?_) #[true, true, true, true, true, true, true, false, true, true, true, false, false, false, false] rfl rfl (by kernel_rfl) (fun _ _ _ h => h) (Or.inl ⟨by rfl, ?_⟩) ?_ ?_
      rotate_left
      · intro w'
        go_simp
        with_reducible rfl
      rotate_left
      · simp only [Act.put, List.setIfInBounds_toArray, List.set_cons_zero, List.set_cons_succ, i64_w, i32_w]
        rfl
      refine one_ (i := 7) (N := some 75) #[true, true, true, true, true, true, true, true, true, true, true, false, false, false, false] rfl rfl (by kernel_rfl) (by decide) (fun K hK => ?_)
      refine goes_ Try.func32 (by kernel_rfl) rfl #[.pointer (some ⟨p, 0, none⟩)] (by rfl) rfl rfl (by simp only [List.map_toArray, List.map_cons, List.map_nil]; rfl) ?_
      with_reducible refine (durable_ok p _ _ _ (H5.out.at (disk p (logB (al.map (·.m))) ((logB (al.map (·.m))).length : Int) 1048576))).mono ?_
      rintro e w6 ⟨rfl, hd⟩
      refine ⟨_, rfl, ?_⟩
      have H6 := Aside0.mk (H5.out.drawn hd)
      clear hd
      refine hK.out _ _ trivial (fun hHeld => ?_)
      clear hK K
      refine norm_ (a' := ?_) ?_ ?_
      rotate_left
      · show Act.put _ (some 75) _ = _
        simp only [Act.put, List.setIfInBounds_toArray, List.set_cons_zero, List.set_cons_succ, i64_w, i32_w]
        rfl
      refine one_ (i := 11) (N := some 79) #[true, true, true, true, true, true, true, true, true, true, true, true, false, false, false] rfl rfl (by kernel_rfl) (by decide) (fun K hK => ?_)
      refine goes_ Try.func22 (by kernel_rfl) rfl #[.pointer (some ⟨p, 0, none⟩)] (by rfl) rfl rfl (by simp only [List.map_toArray, List.map_cons, List.map_nil]; rfl) ?_
      with_reducible refine (size_ok p _ _ _ (H6.out.at (disk p (logB (al.map (·.m))) ((logB (al.map (·.m))).length : Int) 1048576))).mono ?_
      rintro e w7 ⟨rfl, hd⟩
      refine ⟨_, rfl, ?_⟩
      have H7 := Aside0.mk (H6.out.drawn hd)
      clear hd
      refine hK.out _ _ trivial (fun hHeld => ?_)
      clear hK K
      refine norm_ (a' := ?_) ?_ ?_
      rotate_left
      · show Act.put _ (some 79) _ = _
        simp only [Act.put, List.setIfInBounds_toArray, List.set_cons_zero, List.set_cons_succ, i64_w, i32_w]
        rfl
      refine pure_ (i := 12) (N := some 80) (v := ?_) (a' := ?_) #[true, true, true, true, true, true, true, true, true, true, true, true, true, false, false] rfl rfl (by kernel_rfl) (fun _ _ _ h => h) (Or.inl ⟨by rfl, ?_⟩) ?_ ?_
      rotate_left
      · intro w'
        go_simp
        with_reducible rfl
      rotate_left
      · simp only [Act.put, List.setIfInBounds_toArray, List.set_cons_zero, List.set_cons_succ, i64_w, i32_w]
        rfl
      refine pure_ (i := 13) (N := some 81) (v := ?_) (a' := ?_) #[true, true, true, true, true, true, true, true, true, true, true, true, true, true, false] rfl rfl (by kernel_rfl) (fun _ _ _ h => h) (Or.inl ⟨by rfl, ?_⟩) ?_ ?_
      rotate_left
      · intro w'
        go_simp
        with_reducible rfl
      rotate_left
      · simp only [Act.put, List.setIfInBounds_toArray, List.set_cons_zero, List.set_cons_succ, i64_w, i32_w]
        rfl
      refine pure_ (i := 14) (N := some 4) (v := ?_) (a' := ?_) #[true, true, true, true, true, true, true, true, true, true, true, true, true, true, true] rfl rfl (by kernel_rfl) (fun _ _ _ h => h) (Or.inl ⟨by rfl, ?_⟩) ?_ ?_
      rotate_left
      · intro w'
        go_simp
        with_reducible rfl
      rotate_left
      · simp only [Act.put, List.setIfInBounds_toArray, List.set_cons_zero, List.set_cons_succ, i64_w, i32_w]
        rfl
      refine done_ (by kernel_rfl) ?_
      go_wp2_with fail
      go_ret
      exact ⟨rfl, H7.out.below⟩
theorem logTwo_walk (A : Option Addr) (c : Nat) (ys : List TM0) (B : Option Addr) (d : Nat) (zs : List TM0) (w : World) (hC : KMsg.C w A ys.length ys) (hl : ys.length ≤ c) (hS : ys.length * 160 ≤ 140737488351232 ∧ ∀ y ∈ ys, sM0 y) (hD : KMsg.C w B zs.length zs) (hm : zs.length ≤ d) (hT : zs.length * 160 ≤ 140737488351232 ∧ ∀ y ∈ zs, sM0 y) :
    Calls Try.prog 7 #[.slice A ys.length c, .slice B zs.length d] w fun e w' => e = .returned (.bool true) ∧ Below w.heap.size w w' := by
  obtain ⟨l, h1, _, h3⟩ := msgs_args hC hS.2
  obtain ⟨l2, g1, _, g3⟩ := msgs_args hD hT.2
  exact logTwo_ok A _ c l B _ d l2 w h1 h3 (by have := hS.1; omega) g1 g3 (by have := hT.1; omega)
end Go.Proofs.Ytahojkpbjijckaa
