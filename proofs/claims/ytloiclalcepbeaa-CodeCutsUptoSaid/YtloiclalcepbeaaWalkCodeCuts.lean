/- CodeCuts' walk. -/
import Derived.Test.YtloiclalcepbeaaCodeF
import Derived.Test.YtloiclalcepbeaaCodeA
set_option linter.unusedVariables false
set_option linter.unusedSimpArgs false
namespace Go.Proofs.Ytloiclalcepbeaa
open Go.RowKit Go.Proofs.YtloiclalcepbeaaW.PrintWords Go.Proofs.YtloiclalcepbeaaW.PrintLast
set_option maxHeartbeats 12800000 in
set_option maxRecDepth 100000 in
theorem codeCuts_ok (m : Msg) (s1 s2 s3 s4 : Hdr) (less : Int) (B : Option Addr) (nb cb : Nat) (ys : List Int) (w : World) (hC : MsgC w m s1 s2 s3 s4) (hok : MsgOk m) (hB : (Kd.int .u8).C w B nb ys) (hcb : nb ≤ cb) (hys : bytes ys) (hn : nb ≤ 1048576) (hless : i64r less) :
    Calls Try.prog 11 #[msgV m s1 s2 s3 s4, .int .i64 less, .slice B nb cb] w fun e w' => e = .returned (.bool true) ∧ Below w.heap.size w w' := by
  obtain ⟨A1, n1, c1⟩ := s1
  obtain ⟨A2, n2, c2⟩ := s2
  obtain ⟨A3, n3, c3⟩ := s3
  obtain ⟨A4, n4, c4⟩ := s4
  have MC := Aside0.mk hC
  have OK := Aside0.mk hok
  have CB := Aside0.mk hB
  have NB := Aside0.mk hB.1
  have BB := Aside0.mk hys
  have H1 := Aside0.mk ((Hw.start w).alloc (.cells #[.int .i64 m.kind, .int .i64 m.src, .int .i64 m.dst, .int .i64 m.id, .int .i64 m.rev, .int .i64 m.epoch, .int .i64 m.slot, .bool m.flag, .slice A1 n1 c1, .slice A2 n2 c2, .slice A3 n3 c3, .slice A4 n4 c4] 53))
  clear hC hok hB hys
  show Calls Try.prog 11 #[.agg #[.int .i64 m.kind, .int .i64 m.src, .int .i64 m.dst, .int .i64 m.id, .int .i64 m.rev, .int .i64 m.epoch, .int .i64 m.slot, .bool m.flag, .slice A1 n1 c1, .slice A2 n2 c2, .slice A3 n3 c3, .slice A4 n4 c4], .int .i64 less, .slice B nb cb] w _
  go_enter Try.func11, Try.ntmps11
  go_wp2_with fail
  refine (cawake_ok _).mono ?_
  rintro e w1 ⟨rfl, h1⟩
  have H2 := Aside0.mk (H1.out.from_below h1)
  have k0 := (H2.out.atB w.heap.size).cell (i := 0) (v := .int .i64 m.kind) rfl
  have k1 := (H2.out.atB w.heap.size).cell (i := 1) (v := .int .i64 m.src) rfl
  have k2 := (H2.out.atB w.heap.size).cell (i := 2) (v := .int .i64 m.dst) rfl
  have k3 := (H2.out.atB w.heap.size).cell (i := 3) (v := .int .i64 m.id) rfl
  have k4 := (H2.out.atB w.heap.size).cell (i := 4) (v := .int .i64 m.rev) rfl
  have k5 := (H2.out.atB w.heap.size).cell (i := 5) (v := .int .i64 m.epoch) rfl
  have k6 := (H2.out.atB w.heap.size).cell (i := 6) (v := .int .i64 m.slot) rfl
  have k7 := (H2.out.atB w.heap.size).cell (i := 7) (v := .bool m.flag) rfl
  have k8 := (H2.out.atB w.heap.size).cell (i := 8) (v := .slice A1 n1 c1) rfl
  have k9 := (H2.out.atB w.heap.size).cell (i := 9) (v := .slice A2 n2 c2) rfl
  have k10 := (H2.out.atB w.heap.size).cell (i := 10) (v := .slice A3 n3 c3) rfl
  have k11 := (H2.out.atB w.heap.size).cell (i := 11) (v := .slice A4 n4 c4) rfl
  have EN := Aside0.mk (encode_ok m A1 A2 A3 A4 n1 n2 n3 n4 c1 c2 c3 c4 w1 (MC.out.below H2.out.below) OK.out)
  clear h1 H1
  go_wp2_with fail
  refine EN.out.mono ?_
  rintro e w2 ⟨A, n, c, rfl, hne, g⟩
  have B1 := Aside0.mk H2.out.below
  have BE := Aside0.mk (H2.out.below.trans (g.below.mono H2.out.below.size))
  clear k0 k1 k2 k3 k4 k5 k6 k7 k8 k9 k10 k11 EN H2
  by_cases hgood : MsgFits m ∧ (encMsg m).length ≤ 16384
  · obtain ⟨t1, t2⟩ := encGood_true hgood.1 hgood.2
    rw [t1] at hne g
    rw [t2]
    have FT := Aside0.mk hgood
    have NE := Aside0.mk hne
    have hn16 : n ≤ 16384 := by rw [hne]; exact hgood.2
    have G := Aside0.mk g
    have RC := Aside0.mk g.row_C
    have hnc := g.row_C.2.1
    clear hgood t1 t2 hne g
    by_cases hcut : 0 < less ∧ less ≤ n
    · obtain ⟨l, rfl⟩ : ∃ l : Nat, less = l := ⟨less.toNat, by omega⟩
      have hl0 : 0 < l := by omega
      have hln : l ≤ n := by omega
      have d1 : decide ((0 : Int) < l) = true := decide_eq_true (by omega)
      have d2 : decide (0 < l) = true := decide_eq_true hl0
      have d3 : decide ((l : Int) ≤ n) = true := decide_eq_true (by omega)
      have d4 : decide (l ≤ n) = true := decide_eq_true hln
      have hsub : (n : Int) - l = ((n - l : Nat) : Int) := by omega
      have e1 : wrap64 ((n : Int) - l) = ((n - l : Nat) : Int) := by rw [hsub]; exact (i64_in2 _ (by omega) (by omega)).1
      have e2 : IntKind.i64.wrap ((n : Int) - l) = ((n - l : Nat) : Int) := by rw [hsub]; exact (i64_in2 _ (by omega) (by omega)).2
      obtain ⟨k, hk⟩ : ∃ k, k = n - l := ⟨_, rfl⟩
      rw [← hk] at e1 e2
      have hkn : k < n := by omega
      obtain ⟨inf, hinf, hiz0, hiz1, hiz2⟩ := info_parts Try.infoU8
      obtain ⟨hcut1, hC1⟩ := sl_take (Kd.int .u8) 35 5 Try.underlying35 hinf A n c (k : Int) k rfl (by omega) hnc
      have DD := Aside0.mk (decode_ok A k c ((encMsg m).take k) w2 (hC1 _ _ RC.out.2.2) (by omega) (fun x hx => encMsg_bytes m x (List.mem_of_mem_take hx)))
      have RD := Aside0.mk (dec_cut m OK.out FT.out.1 FT.out.2 k (by rw [← NE.out]; exact hkn))
      clear hC1 hinf hiz0 hiz1 hiz2 hcut hsub hk
      go_wp2_with fail
      refine DD.out.mono ?_
      rintro e w3 (⟨m', _, _, _, _, hr, _⟩ | ⟨cc, hr, hcc, rfl, hbel⟩)
      · rw [RD.out] at hr; cases hr
      · have hcc2 : cc = 10 := by rw [RD.out] at hr; injection hr with hr; exact hr.symm
        subst hcc2
        have HX := Aside0.mk ((G.out.from_below hbel).alloc (.cells #[.int .i64 0, .int .i64 0, .int .i64 0, .int .i64 0, .int .i64 0, .int .i64 0, .int .i64 0, .bool false, .slice none 0 0, .slice none 0 0, .slice none 0 0, .slice none 0 0] 53))
        clear d1 d2 d3 d4 e1 e2 hkn hl0 hln hr DD RD hbel
        go_wp2_with (first | (refine Hw.store_row rfl 53 (.tmp 9) (.tmp 40) rfl w3.heap.size #[.int .i64 0, .int .i64 0, .int .i64 0, .int .i64 0, .int .i64 0, .int .i64 0, .int .i64 0, .bool false, .slice none 0 0, .slice none 0 0, .slice none 0 0, .slice none 0 0] rfl rfl HX.out (by kernel_rfl) (by rfl) (by first | kernel_rfl | rfl | simp [Value.oneCell']) ?_; intro w4 HZ; have HE := Aside0.mk ((HZ.out.right.alloc (.cells #[] 5)).row_empty (k := .u8)); have CE := Aside0.mk (HE.out.right.row_C.2.2)) | (at_builtin; refine Hw.append_int (k := .u8) rfl (.tmp 45) (.tmp 46) 35 5 1 rfl Try.underlying35 Try.infoU8 (by decide) _ [] (encMsg m) A n c rfl rfl HE.out CE.out (by simp; omega) (encMsg m) rfl n NE.out.symm ?_; intro A5 c5 w5 H5; have C5 := Aside0.mk (Kd.C_below (Kd.C_below CB.out B1.out) H5.out.below)) |
          (at_builtin; refine Hw.append_int (k := .u8) rfl (.tmp 47) (.tmp 48) 35 5 1 rfl Try.underlying35 Try.infoU8 (by decide) _ (encMsg m) ys B nb cb rfl rfl H5.out C5.out (by rw [← NE.out]; omega) (encMsg m ++ ys) rfl (n + nb) (by rw [List.length_append, ← NE.out, NB.out]) ?_; intro A6 c6 w6 H6))
        have DE := Aside0.mk (decode_ok A6 (n + nb) c6 (encMsg m ++ ys) w6 H6.out.row_C.2.2 H6.out.row_C.2.1 (fun x hx => (List.mem_append.1 hx).elim (encMsg_bytes m x) (BB.out x)))
        have B6 := Aside0.mk (B1.out.trans (H6.out.below.mono B1.out.size))
        clear HE CE H5 C5 H6
        refine DE.out.mono ?_
        rintro e w7 (⟨m', t1, t2, t3, t4, hr, _, rfl, g⟩ | ⟨cc, hr, hcc, rfl, hbel⟩)
        · have nb0 : nb = 0 := by
            rw [← NB.out]
            cases hys : ys with
            | nil => rfl
            | cons y l =>
              exfalso
              rw [hys] at hr
              by_cases hlong : 16384 < (encMsg m ++ y :: l).length
              · rw [dec_long _ hlong] at hr; cases hr
              · rw [dec_more m OK.out FT.out.1 y l (by omega)] at hr; cases hr
          subst nb0
          have B7 := Aside0.mk (B6.out.trans (g.below.mono B6.out.size))
          have HM := Aside0.mk ((Hw.start w7).alloc (.cells #[.int .i64 0, .int .i64 0, .int .i64 0, .int .i64 0, .int .i64 0, .int .i64 0, .int .i64 0, .bool false, .slice none 0 0, .slice none 0 0, .slice none 0 0, .slice none 0 0] 53))
          clear hr g
          go_wp2_with (refine Hw.store_row rfl 53 (.tmp 11) (.tmp 51) rfl w7.heap.size #[.int .i64 m'.kind, .int .i64 m'.src, .int .i64 m'.dst, .int .i64 m'.id, .int .i64 m'.rev, .int .i64 m'.epoch, .int .i64 m'.slot, .bool m'.flag, .slice t1.1 t1.2.1 t1.2.2, .slice t2.1 t2.2.1 t2.2.2, .slice t3.1 t3.2.1 t3.2.2, .slice t4.1 t4.2.1 t4.2.2] rfl rfl HM.out (by kernel_rfl) (by rfl) (by first | kernel_rfl | rfl | simp [Value.oneCell']) ?_; intro w8 HN)
          go_ret
          exact ⟨rfl, B7.out.trans (HN.out.below.mono B7.out.size)⟩
        · have B7 := Aside0.mk (B6.out.trans (hbel.mono B6.out.size))
          have HM := Aside0.mk ((Hw.start w7).alloc (.cells #[.int .i64 0, .int .i64 0, .int .i64 0, .int .i64 0, .int .i64 0, .int .i64 0, .int .i64 0, .bool false, .slice none 0 0, .slice none 0 0, .slice none 0 0, .slice none 0 0] 53))
          clear hbel hcc
          obtain ⟨y, l, hys⟩ : ∃ y l, ys = y :: l := by
            cases hys : ys with
            | nil =>
              exfalso
              rw [hys, List.append_nil, dec_enc m OK.out FT.out.1 FT.out.2] at hr
              cases hr
            | cons y l => exact ⟨y, l, rfl⟩
          have nbp : 0 < nb := by rw [← NB.out, hys]; exact Nat.succ_pos _
          have f0 : ((nb : Int) == 0) = false := beq_eq_false_iff_ne.2 (by omega)
          have hL : (encMsg m ++ y :: l).length = n + nb := by rw [List.length_append, ← NE.out, ← hys, NB.out]
          have hadd : (n : Int) + nb = ((n + nb : Nat) : Int) := by omega
          have e3 : wrap64 ((n : Int) + nb) = (n : Int) + nb := (i64_in2 _ (by omega) (by omega)).1
          have e4 : IntKind.i64.wrap ((n : Int) + nb) = (n : Int) + nb := (i64_in2 _ (by omega) (by omega)).2
          rw [hys] at hr
          clear hadd
          by_cases hlong : 16384 < n + nb
          · rw [dec_long _ (by omega)] at hr
            obtain rfl : 2 = cc := by injection hr
            have f1 : decide ((16384 : Int) < (n : Int) + nb) = true := decide_eq_true (by omega)
            clear hr hL nbp hlong
            go_wp2_with (refine Hw.store_row rfl 53 (.tmp 11) (.tmp 51) rfl w7.heap.size #[.int .i64 0, .int .i64 0, .int .i64 0, .int .i64 0, .int .i64 0, .int .i64 0, .int .i64 0, .bool false, .slice none 0 0, .slice none 0 0, .slice none 0 0, .slice none 0 0] rfl rfl HM.out (by kernel_rfl) (by rfl) (by first | kernel_rfl | rfl | simp [Value.oneCell']) ?_; intro w8 HN)
            go_ret
            exact ⟨rfl, B7.out.trans (HN.out.below.mono B7.out.size)⟩
          · rw [dec_more m OK.out FT.out.1 y l (by omega)] at hr
            obtain rfl : 21 = cc := by injection hr
            have f1 : decide ((16384 : Int) < (n : Int) + nb) = false := decide_eq_false (by omega)
            clear hr hL nbp hlong
            go_wp2_with (refine Hw.store_row rfl 53 (.tmp 11) (.tmp 51) rfl w7.heap.size #[.int .i64 0, .int .i64 0, .int .i64 0, .int .i64 0, .int .i64 0, .int .i64 0, .int .i64 0, .bool false, .slice none 0 0, .slice none 0 0, .slice none 0 0, .slice none 0 0] rfl rfl HM.out (by kernel_rfl) (by rfl) (by first | kernel_rfl | rfl | simp [Value.oneCell']) ?_; intro w8 HN)
            go_ret
            exact ⟨rfl, B7.out.trans (HN.out.below.mono B7.out.size)⟩
    · have HE := Aside0.mk ((G.out.alloc (.cells #[] 5)).row_empty (k := .u8))
      have CE := Aside0.mk (HE.out.right.row_C.2.2)
      have hd : decide (0 < less) = false ∨ (decide (0 < less) = true ∧ decide (less ≤ (n : Int)) = false) := by
        by_cases hz : 0 < less
        · exact .inr ⟨decide_eq_true hz, decide_eq_false (fun h => hcut ⟨hz, h⟩)⟩
        · exact .inl (decide_eq_false hz)
      clear hcut
      rcases hd with d1 | ⟨d1, d2⟩
      all_goals
        go_wp2_with (first | (at_builtin; refine Hw.append_int (k := .u8) rfl (.tmp 45) (.tmp 46) 35 5 1 rfl Try.underlying35 Try.infoU8 (by decide) _ [] (encMsg m) A n c rfl rfl HE.out CE.out (by simp; omega) (encMsg m) rfl n NE.out.symm ?_; intro A5 c5 w5 H5; have C5 := Aside0.mk (Kd.C_below (Kd.C_below CB.out B1.out) H5.out.below)) |
          (at_builtin; refine Hw.append_int (k := .u8) rfl (.tmp 47) (.tmp 48) 35 5 1 rfl Try.underlying35 Try.infoU8 (by decide) _ (encMsg m) ys B nb cb rfl rfl H5.out C5.out (by rw [← NE.out]; omega) (encMsg m ++ ys) rfl (n + nb) (by rw [List.length_append, ← NE.out, NB.out]) ?_; intro A6 c6 w6 H6))
        have DE := Aside0.mk (decode_ok A6 (n + nb) c6 (encMsg m ++ ys) w6 H6.out.row_C.2.2 H6.out.row_C.2.1 (fun x hx => (List.mem_append.1 hx).elim (encMsg_bytes m x) (BB.out x)))
        have B6 := Aside0.mk (B1.out.trans (H6.out.below.mono B1.out.size))
        clear HE CE H5 C5 H6
        refine DE.out.mono ?_
        rintro e w7 (⟨m', t1, t2, t3, t4, hr, _, rfl, g⟩ | ⟨cc, hr, hcc, rfl, hbel⟩)
        · have nb0 : nb = 0 := by
            rw [← NB.out]
            cases hys : ys with
            | nil => rfl
            | cons y l =>
              exfalso
              rw [hys] at hr
              by_cases hlong : 16384 < (encMsg m ++ y :: l).length
              · rw [dec_long _ hlong] at hr; cases hr
              · rw [dec_more m OK.out FT.out.1 y l (by omega)] at hr; cases hr
          subst nb0
          have B7 := Aside0.mk (B6.out.trans (g.below.mono B6.out.size))
          have HM := Aside0.mk ((Hw.start w7).alloc (.cells #[.int .i64 0, .int .i64 0, .int .i64 0, .int .i64 0, .int .i64 0, .int .i64 0, .int .i64 0, .bool false, .slice none 0 0, .slice none 0 0, .slice none 0 0, .slice none 0 0] 53))
          clear hr g
          go_wp2_with (refine Hw.store_row rfl 53 (.tmp 11) (.tmp 51) rfl w7.heap.size #[.int .i64 m'.kind, .int .i64 m'.src, .int .i64 m'.dst, .int .i64 m'.id, .int .i64 m'.rev, .int .i64 m'.epoch, .int .i64 m'.slot, .bool m'.flag, .slice t1.1 t1.2.1 t1.2.2, .slice t2.1 t2.2.1 t2.2.2, .slice t3.1 t3.2.1 t3.2.2, .slice t4.1 t4.2.1 t4.2.2] rfl rfl HM.out (by kernel_rfl) (by rfl) (by first | kernel_rfl | rfl | simp [Value.oneCell']) ?_; intro w8 HN)
          go_ret
          exact ⟨rfl, B7.out.trans (HN.out.below.mono B7.out.size)⟩
        · have B7 := Aside0.mk (B6.out.trans (hbel.mono B6.out.size))
          have HM := Aside0.mk ((Hw.start w7).alloc (.cells #[.int .i64 0, .int .i64 0, .int .i64 0, .int .i64 0, .int .i64 0, .int .i64 0, .int .i64 0, .bool false, .slice none 0 0, .slice none 0 0, .slice none 0 0, .slice none 0 0] 53))
          clear hbel hcc
          obtain ⟨y, l, hys⟩ : ∃ y l, ys = y :: l := by
            cases hys : ys with
            | nil =>
              exfalso
              rw [hys, List.append_nil, dec_enc m OK.out FT.out.1 FT.out.2] at hr
              cases hr
            | cons y l => exact ⟨y, l, rfl⟩
          have nbp : 0 < nb := by rw [← NB.out, hys]; exact Nat.succ_pos _
          have f0 : ((nb : Int) == 0) = false := beq_eq_false_iff_ne.2 (by omega)
          have hL : (encMsg m ++ y :: l).length = n + nb := by rw [List.length_append, ← NE.out, ← hys, NB.out]
          have hadd : (n : Int) + nb = ((n + nb : Nat) : Int) := by omega
          have e3 : wrap64 ((n : Int) + nb) = (n : Int) + nb := (i64_in2 _ (by omega) (by omega)).1
          have e4 : IntKind.i64.wrap ((n : Int) + nb) = (n : Int) + nb := (i64_in2 _ (by omega) (by omega)).2
          rw [hys] at hr
          clear hadd
          by_cases hlong : 16384 < n + nb
          · rw [dec_long _ (by omega)] at hr
            obtain rfl : 2 = cc := by injection hr
            have f1 : decide ((16384 : Int) < (n : Int) + nb) = true := decide_eq_true (by omega)
            clear hr hL nbp hlong
            go_wp2_with (refine Hw.store_row rfl 53 (.tmp 11) (.tmp 51) rfl w7.heap.size #[.int .i64 0, .int .i64 0, .int .i64 0, .int .i64 0, .int .i64 0, .int .i64 0, .int .i64 0, .bool false, .slice none 0 0, .slice none 0 0, .slice none 0 0, .slice none 0 0] rfl rfl HM.out (by kernel_rfl) (by rfl) (by first | kernel_rfl | rfl | simp [Value.oneCell']) ?_; intro w8 HN)
            go_ret
            exact ⟨rfl, B7.out.trans (HN.out.below.mono B7.out.size)⟩
          · rw [dec_more m OK.out FT.out.1 y l (by omega)] at hr
            obtain rfl : 21 = cc := by injection hr
            have f1 : decide ((16384 : Int) < (n : Int) + nb) = false := decide_eq_false (by omega)
            clear hr hL nbp hlong
            go_wp2_with (refine Hw.store_row rfl 53 (.tmp 11) (.tmp 51) rfl w7.heap.size #[.int .i64 0, .int .i64 0, .int .i64 0, .int .i64 0, .int .i64 0, .int .i64 0, .int .i64 0, .bool false, .slice none 0 0, .slice none 0 0, .slice none 0 0, .slice none 0 0] rfl rfl HM.out (by kernel_rfl) (by rfl) (by first | kernel_rfl | rfl | simp [Value.oneCell']) ?_; intro w8 HN)
            go_ret
            exact ⟨rfl, B7.out.trans (HN.out.below.mono B7.out.size)⟩
  · obtain ⟨t1, t2⟩ := encGood_false hgood
    rw [t2]
    clear hne g hgood
    go_wp2_with fail
    go_ret
    exact ⟨rfl, BE.out⟩
theorem codeCutsUpto_walk (m : Msg) (s1 s2 s3 s4 : Hdr) (less : Int) (B : Option Addr) (cb : Nat) (ys : List Int) (w : World) (hC : MsgC w m s1 s2 s3 s4) (hok : MsgOk m) (_ : MsgLe m s1 s2 s3 s4) (hl : (Lit.int .i64 less).wf = true)
    (hB : (Kd.int .u8).C w B ys.length ys) (hcb : ys.length ≤ cb) (sb : ys.length * 1 ≤ 140737488351232 ∧ ∀ x ∈ ys, (Lit.int .u8 x).wf = true) (hU : (ys.map fun _ => 1).sum + 1 ≤ 1048576) :
    Calls Try.prog 11 #[msgV m s1 s2 s3 s4, .int .i64 less, .slice B ys.length cb] w fun e w' => e = .returned (.bool true) ∧ Below w.heap.size w w' :=
  codeCuts_ok m s1 s2 s3 s4 less B _ cb ys w hC hok hB hcb (bytes_wf sb.2) (by rw [ones_sum] at hU; omega) (i64r_cS hl)
end Go.Proofs.Ytloiclalcepbeaa
