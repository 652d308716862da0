/- The log's Open. Printed by wip/gen/logo.py. -/
import Derived.Test.YtckdkbjobipniaaLogB
set_option linter.unusedVariables false
set_option linter.unusedSimpArgs false
namespace Go.Proofs.Ytckdkbjobipniaa
open Go.RowKit Go.Proofs.YtckdkbjobipniaaW.PrintWords Go.Proofs.YtckdkbjobipniaaW.PrintLast
theorem cutN_isB : ∀ (k : Nat) (xs : List Int), isB xs → ∀ p ∈ (cutN k xs).1, isB p
  | 0, xs, _, p, hp => by simp [cutN] at hp
  | k + 1, xs, hb, p, hp => by
    unfold cutN at hp
    split at hp
    · simp at hp
    · split at hp
      · rcases List.mem_cons.1 hp with rfl | hp
        · exact openTxt_isB xs hb
        · exact cutN_isB k _ (fun x hx => hb x (List.mem_of_mem_drop hx)) p hp
      · simp at hp
theorem cutOf_isB (xs : List Int) (hb : isB xs) : ∀ p ∈ (cutOf xs).1, isB p := cutN_isB _ xs hb
theorem drop_cons {α : Type} {l : List α} {k : Nat} {x : α} (h : l[k]? = some x) : l.drop k = x :: l.drop (k + 1) := by
  have hl := (List.getElem?_eq_some_iff.1 h).1
  rw [List.drop_eq_getElem_cons hl]
  congr 1
  exact (List.getElem?_eq_some_iff.1 h).2
theorem Try.infoMsg : (Try.prog.info? 27).map (fun i => (i.zero, i.size, i.bytes)) = some (some (.agg #[.int .i64 0, .int .i64 0, .int .i64 0, .int .i64 0, .int .i64 0, .int .i64 0, .int .i64 0, .bool false, .slice none 0 0, .slice none 0 0, .slice none 0 0, .slice none 0 0]), 12, 160) := by kernel_rfl
def OpenPost (w0 : World) (F : HP) (p : Nat) (bytes : List Int) (room : Int) (e : Ending) (w' : World) : Prop := ∃ (q : Nat) (A : Option Addr) (n c : Nat) (l : List MH), e = .returned (.tuple #[.pointer (some ⟨q, 0, none⟩), .slice A n c]) ∧ l.map (·.m) = (logRead bytes).1 ∧ l.length = n ∧ (∀ x ∈ l, x.H) ∧ n * 8 ≤ bytes.length ∧
  Hw w0 w' (crow 12 27 A n c (l.flatMap mhC) * (msgsP l * (logP q p n * (disk p (bytes.take (logRead bytes).2) ((bytes.take (logRead bytes).2).length : Int) room * F))))
section
variable {w0 w : World} {F : HP} {p : Nat} {bytes : List Int} {dur room : Int}
theorem ox1 {D C M B1 B2 B3 F : HP} {L : HP} (h : Hw w0 w (L * (D * (C * (M * (B1 * (B2 * (B3 * F)))))))) : Hw w0 w (C * (M * (L * (D * F)))) := (h.as (Q := C * (M * (L * (D * F))) * (B1 * (B2 * B3))) (by ac_rfl)).left
theorem ox2 {D C M B1 B2 B3 B4 F : HP} {L : HP} (h : Hw w0 w (L * (D * (B4 * (C * (M * (B1 * (B2 * (B3 * F))))))))) : Hw w0 w (C * (M * (L * (D * F)))) := (h.as (Q := C * (M * (L * (D * F))) * (B1 * (B2 * (B3 * B4)))) (by ac_rfl)).left
theorem ox3 {Cr N X E P1 M R : HP} (h : Hw w0 w (Cr * (N * (X * (P1 * E * (M * R)))))) : Hw w0 w (Cr * (P1 * M * R)) := (h.as (Q := Cr * (P1 * M * R) * (N * (X * E))) (by ac_rfl)).left
set_option maxHeartbeats 12800000 in
set_option maxRecDepth 100000 in
theorem lopen_ok (hb : isB bytes) (hl : bytes.length ≤ 16777216) (h : Hw w0 w (disk p bytes dur room * F)) :
    Calls Try.prog 20 #[.pointer (some ⟨p, 0, none⟩)] w (OpenPost w0 F p bytes room) := by
  obtain ⟨bl, hbl⟩ : ∃ bl, bytes.length = bl := ⟨_, rfl⟩
  have LB := Aside0.mk hbl
  rw [hbl] at hl
  have BB := Aside0.mk hb
  have BY := Aside0.mk (bytes_n p bytes dur room bl hbl (by omega) h)
  clear h hb hbl
  go_enter Try.func20, Try.ntmps20
  go_wp2_with fail
  refine BY.out.mono ?_
  rintro e w1 ⟨A1, c1, rfl, hc1, h1⟩
  have H1 := Aside0.mk h1
  clear h1 BY
  go_wp2_with fail
  refine (fcut_ok A1 bl c1 bytes hl hc1 H1.out (Ent.of_row (e := 5) (c := c1)) BB.out).mono ?_
  rintro e w2 ⟨A2, n2, c2, hs, rfl, h2⟩
  obtain ⟨ps, hps⟩ : ∃ ps, ps = (cutOf bytes).1 := ⟨_, rfl⟩
  rw [← hps] at h2
  have PB := Aside0.mk (show ∀ x ∈ ps, isB x by rw [hps]; exact cutOf_isB bytes BB.out)
  have PN := Aside0.mk (show ps.length * 8 ≤ bytes.length by rw [hps]; exact cutOf_count bytes.length bytes (Nat.le_refl _) BB.out)
  have LR0 := Aside0.mk (show logRead bytes = decAll ps by unfold logRead; rw [← hps])
  have hn2 : n2 = ps.length := by
    obtain ⟨A', c', e1, _⟩ := rows_C h2
    injection e1
  have NP := Aside0.mk hn2
  have hnb : n2 * 8 ≤ 16777216 := by have := PN.out; rw [LB.out] at this; omega
  have H2 := Aside0.mk h2
  obtain ⟨nb2, hnb2⟩ : ∃ x : Int, x = ((cutOf bytes).2.1 : Int) := ⟨_, rfl⟩
  obtain ⟨eb2, heb2⟩ : ∃ x : Int, x = (cutOf bytes).2.2 := ⟨_, rfl⟩
  rw [← hnb2, ← heb2]
  clear h2 hn2 H1 hps hnb2 heb2
  go_wp2_with fail
  go_loopw [26, 8, 9] (fun i v s wr => ∃ (k : Nat) (l : List MH) (A : Option Addr) (c sz : Nat), k ≤ n2 ∧ i = .int .i64 k ∧ v = .slice A k c ∧ s = .int .i64 sz ∧ Aside0 (l.length = k) ∧ Aside0 (decAll ps = (l.map (·.m) ++ (decAll (ps.drop k)).1, sz + (decAll (ps.drop k)).2)) ∧ Aside0 (sz ≤ bl) ∧ Aside0 (∀ x ∈ l, x.H) ∧
    Aside0 (Hw w0 wr (crow 12 27 A k c (l.flatMap mhC) * (msgsP l * (row KHdr 28 (.slice A2 n2 c2) hs * (rowsHP (Kd.int .u8) 5 hs ps * (row (Kd.int .u8) 5 (.slice A1 bl c1) bytes * (disk p bytes dur room * F)))))))) (fun i _ _ _ => n2 - (intOf i).toNat)
  case atStart => exact ⟨0, [], none, 0, 0, Nat.zero_le _, rfl, rfl, rfl, ⟨rfl⟩, ⟨by simp⟩, ⟨Nat.zero_le _⟩, ⟨fun x hx => by simp at hx⟩, ⟨crow_none rfl rfl H2.out.emp_mul⟩⟩
  case round =>
    obtain ⟨k, l, A, c, sz, hk, rfl, rfl, rfl, LL, DA, SZ, HH, HW⟩ := hrel
    clear H2
    by_cases hlt : k < n2
    · obtain ⟨A2', c2', e2, hle2, hPC⟩ := rows_C (HW.out.as (Q := row KHdr 28 (.slice A2 n2 c2) hs * (rowsHP (Kd.int .u8) 5 hs ps * (row (Kd.int .u8) 5 (.slice A1 bl c1) bytes * (disk p bytes dur room * F))) * (crow 12 27 A k c (l.flatMap mhC) * msgsP l)) (by ac_rfl) |>.as (HP.assoc _ _ _) |>.as (by rw [HP.assoc]))
      injection e2 with e2 e3 e4
      subst e2
      obtain ⟨ad, A', c', x, rfl, hcell, hxc, hx, hxC⟩ := C_row_at hPC k (by rw [← NP.out]; exact hlt)
      have XB := Aside0.mk (PB.out x (List.mem_of_getElem? hx.out))
      have DC := Aside0.mk (drop_cons hx.out)
      have DE := Aside0.mk (decode_ok A' x.length c' x wr hxC.out hxc XB.out)
      have KB : Aside0 (k * 8 ≤ bytes.length) := ⟨by have := PN.out; have := NP.out; omega⟩
      obtain ⟨xl, hxl⟩ : ∃ xl, x.length = xl := ⟨_, rfl⟩
      have XL := Aside0.mk hxl
      rw [hxl] at hcell DE
      clear hPC hle2 e3 e4 hx hxC hxl hxc
      go_wp2_with fail
      refine DE.out.mono ?_
      rintro e w3 (⟨y, ⟨T1, p1, d1⟩, ⟨T2, p2, d2⟩, ⟨T3, p3, d3⟩, ⟨T4, p4, d4⟩, hr, hh, rfl, g⟩ | ⟨cc, hr, hcc, rfl, hbel⟩)
      · have DY := Aside0.mk hr
        have HY := Aside0.mk hh
        have DA2 := Aside0.mk (show decAll ps = ((l ++ [(⟨y, (T1, p1, d1), (T2, p2, d2), (T3, p3, d3), (T4, p4, d4)⟩ : MH)]).map (·.m) ++ (decAll (ps.drop (k + 1))).1, (sz + (8 + xl)) + (decAll (ps.drop (k + 1))).2) by
          rw [DA.out, DC.out, decAll_ok _ DY.out, XL.out, List.map_append, List.append_assoc]
          exact Prod.ext rfl (by show sz + (8 + xl + _) = _; omega))
        have SZ2 := Aside0.mk (show sz + (8 + xl) ≤ bl by
          have h1 := (logRead_inv bytes BB.out).2.2.2
          rw [LR0.out, DA2.out, LB.out] at h1
          have : sz + (8 + xl) + (decAll (ps.drop (k + 1))).2 ≤ bl := h1
          omega)
        have H3 := Aside0.mk (HW.out.trans g)
        have H4 := Aside0.mk (H3.out.alloc (.cells #[.int .i64 0, .int .i64 0, .int .i64 0, .int .i64 0, .int .i64 0, .int .i64 0, .int .i64 0, .bool false, .slice none 0 0, .slice none 0 0, .slice none 0 0, .slice none 0 0] 27))
        have hsz := SZ2.out
        have hw1 := (i64_in2 (8 + (xl : Int)) (by omega) (by omega)).1
        have hw2 := (i64_in2 (8 + (xl : Int)) (by omega) (by omega)).2
        have hw3 := (i64_in2 ((sz : Int) + (8 + (xl : Int))) (by omega) (by omega)).1
        have hw4 := (i64_in2 ((sz : Int) + (8 + (xl : Int))) (by omega) (by omega)).2
        clear hr hh g DE HW H3 DA SZ hsz hcell
        go_wp2_with (first | (refine Hw.store_row rfl 27 (.tmp 12) (.tmp 33) rfl w3.heap.size #[.int .i64 y.kind, .int .i64 y.src, .int .i64 y.dst, .int .i64 y.id, .int .i64 y.rev, .int .i64 y.epoch, .int .i64 y.slot, .bool y.flag, .slice T1 p1 d1, .slice T2 p2 d2, .slice T3 p3 d3, .slice T4 p4 d4] rfl rfl H4.out (by kernel_rfl) (by rfl) (by first | kernel_rfl | rfl | simp [Value.oneCell']) ?_; intro w4 H5; have y0 := H5.out.cellAt w3.heap.size 0 (v := .int .i64 y.kind) rfl; have y1 := H5.out.cellAt w3.heap.size 1 (v := .int .i64 y.src) rfl; have y2 := H5.out.cellAt w3.heap.size 2 (v := .int .i64 y.dst) rfl; have y3 := H5.out.cellAt w3.heap.size 3 (v := .int .i64 y.id) rfl; have y4 := H5.out.cellAt w3.heap.size 4 (v := .int .i64 y.rev) rfl; have y5 := H5.out.cellAt w3.heap.size 5 (v := .int .i64 y.epoch) rfl; have y6 := H5.out.cellAt w3.heap.size 6 (v := .int .i64 y.slot) rfl; have y7 := H5.out.cellAt w3.heap.size 7 (v := .bool y.flag) rfl; have y8 := H5.out.cellAt w3.heap.size 8 (v := .slice T1 p1 d1) rfl; have y9 := H5.out.cellAt w3.heap.size 9 (v := .slice T2 p2 d2) rfl; have y10 := H5.out.cellAt w3.heap.size 10 (v := .slice T3 p3 d3) rfl; have y11 := H5.out.cellAt w3.heap.size 11 (v := .slice T4 p4 d4) rfl; have H6n := H5.out.alloc (.cells #[.int .i64 y.kind, .int .i64 y.src, .int .i64 y.dst, .int .i64 y.id, .int .i64 y.rev, .int .i64 y.epoch, .int .i64 y.slot, .bool y.flag, .slice T1 p1 d1, .slice T2 p2 d2, .slice T3 p3 d3, .slice T4 p4 d4] 27); have H6 := Aside0.mk (H6n.at (crow 12 27 A k c (l.flatMap mhC))); have RDB := blk_cells H6n; clear H6n) |
          (at_builtin; refine crow_append (news := [.int .i64 y.kind, .int .i64 y.src, .int .i64 y.dst, .int .i64 y.id, .int .i64 y.rev, .int .i64 y.epoch, .int .i64 y.slot, .bool y.flag, .slice T1 p1 d1, .slice T2 p2 d2, .slice T3 p3 d3, .slice T4 p4 d4]) (m := 1) (c := 1) rfl (.tmp 37) (.tmp 39) 47 (.agg #[.int .i64 0, .int .i64 0, .int .i64 0, .int .i64 0, .int .i64 0, .int .i64 0, .int .i64 0, .bool false, .slice none 0 0, .slice none 0 0, .slice none 0 0, .slice none 0 0]) 160 rfl Try.underlying47 Try.infoMsg rfl (by decide) rfl rfl H6.out rfl (by intro u hu; simp only [List.mem_cons, List.not_mem_nil, or_false] at hu; rcases hu with rfl | rfl | rfl | rfl | rfl | rfl | rfl | rfl | rfl | rfl | rfl | rfl <;> rfl) (fun _ => ⟨_, rfl, RDB⟩) (by decide) (by omega) ?_; intro A7 c7 w7 H7))
        clear RDB H6 H5 H4 y0 y1 y2 y3 y4 y5 y6 y7 y8 y9 y10 y11
        go_roundw
        case rel => exact ⟨k + 1, l ++ [⟨y, (T1, p1, d1), (T2, p2, d2), (T3, p3, d3), (T4, p4, d4)⟩], A7, c7, sz + (8 + xl), by omega, by go_num, rfl, by push_cast; rfl, ⟨by rw [List.length_append, LL.out]; rfl⟩, DA2, SZ2, ⟨fun z hz => (List.mem_append.1 hz).elim (HH.out z) (fun hz => by rw [List.mem_singleton] at hz; subst hz; exact HY.out)⟩, ⟨by
          have h := H7.out
          rw [msgsP_snoc, List.flatMap_append]
          exact ox3 h⟩⟩
        case measure => simp [intOf]; omega
      · have LR := Aside0.mk (show logRead bytes = (l.map (·.m), sz) by rw [LR0.out, DA.out, DC.out, decAll_bad _ hr]; simp)
        have H4 := Aside0.mk ((HW.out.from_below hbel).alloc (.cells #[.int .i64 0, .int .i64 0, .int .i64 0, .int .i64 0, .int .i64 0, .int .i64 0, .int .i64 0, .bool false, .slice none 0 0, .slice none 0 0, .slice none 0 0, .slice none 0 0] 27))
        have hcc2 : (cc == 0) = false := by simpa using hcc
        have hcc3 : (cc != 0) = true := by simpa using hcc
        clear hr hbel DE HW DA hcell hcc
        go_wp2_with (first | (refine Hw.store_row rfl 27 (.tmp 12) (.tmp 33) rfl w3.heap.size #[.int .i64 0, .int .i64 0, .int .i64 0, .int .i64 0, .int .i64 0, .int .i64 0, .int .i64 0, .bool false, .slice none 0 0, .slice none 0 0, .slice none 0 0, .slice none 0 0] rfl rfl H4.out (by kernel_rfl) (by rfl) (by first | kernel_rfl | rfl | simp [Value.oneCell']) ?_; intro w4 H5) | fail)
        have TR := Aside0.mk (truncate_ok p bytes dur room (sz : Int) (H5.out.at (disk p bytes dur room)) (by omega) (by rw [LB.out]; have := SZ.out; omega))
        have KN := Aside0.mk hk
        clear H4 hlt
        go_wp2_with fail
        refine TR.out.mono ?_
        rintro e w5 ⟨rfl, h5⟩
        have H6 := Aside0.mk (h5.alloc (.cells #[.pointer (some ⟨p, 0, none⟩), .int .i64 k] 166))
        clear h5 TR H5
        go_wp2_with fail
        go_ret2
        refine ⟨w5.heap.size, A, k, c, l, rfl, by rw [LR.out], LL.out, HH.out, KB.out, ?_⟩
        rw [LR.out]
        exact ox2 H6.out
    · have hk2 : k = n2 := by omega
      have LR := Aside0.mk (show logRead bytes = (l.map (·.m), sz) by rw [LR0.out, DA.out, hk2, NP.out, List.drop_length]; simp [decAll])
      have KB : Aside0 (k * 8 ≤ bytes.length) := ⟨by have := PN.out; have := NP.out; omega⟩
      clear DA
      subst hk2
      go_wp2_with fail
      have TR := Aside0.mk (truncate_ok p bytes dur room (sz : Int) (HW.out.at (disk p bytes dur room)) (by omega) (by rw [LB.out]; have := SZ.out; omega))
      have KN := Aside0.mk hk
      clear hlt
      go_wp2_with fail
      refine TR.out.mono ?_
      rintro e w5 ⟨rfl, h5⟩
      have H6 := Aside0.mk (h5.alloc (.cells #[.pointer (some ⟨p, 0, none⟩), .int .i64 k] 166))
      clear h5 TR HW
      go_wp2_with fail
      go_ret2
      refine ⟨w5.heap.size, A, k, c, l, rfl, by rw [LR.out], LL.out, HH.out, KB.out, ?_⟩
      rw [LR.out]
      exact ox1 H6.out
end
end Go.Proofs.Ytckdkbjobipniaa
