/- Tokens: the document's Parse. -/
import Derived.Test.YtloiclalcepbeaaTokenW
set_option linter.unusedVariables false
set_option linter.unusedSimpArgs false
namespace Go.Proofs.Ytloiclalcepbeaa
open Go.RowKit Go.Proofs.YtloiclalcepbeaaW.PrintWords Go.Proofs.YtloiclalcepbeaaW.PrintLast
theorem plc_zero (x : Int) (hx : 0 ≤ x ∧ x ≤ 255) : (x == 48) = (plc x == 0) := by
  have h : ∀ y : Fin 256, (((y.val : Int) == 48) = (plc (y.val : Int) == 0)) := by decide +kernel
  obtain ⟨n, rfl⟩ : ∃ n : Nat, x = n := ⟨x.toNat, by omega⟩
  exact h ⟨n, by omega⟩
theorem ret3_eq {a b c a' b' c' : Int} (h : (a', b', c') = (a, b, c)) : Ending.returned (.tuple #[.int .i64 a, .int .i64 b, .int .i64 c]) = Ending.returned (.tuple #[.int .i64 a', .int .i64 b', .int .i64 c']) := by
  injection h with h1 h2
  injection h2 with h2 h3
  rw [h1, h2, h3]
set_option maxHeartbeats 6400000 in
set_option maxRecDepth 100000 in
theorem rparse_ok (s : ByteArray) (w : World) :
    Calls Try.prog 19 #[.string s] w fun e w' => e = .returned (.tuple #[.int .i64 (tparse (numsOf s)).1, .int .i64 (tparse (numsOf s)).2.1, .int .i64 (tparse (numsOf s)).2.2]) ∧ w = w' := by
  obtain ⟨xs, hxs⟩ : ∃ xs, xs = numsOf s := ⟨_, rfl⟩
  have hlen := numsOf_len s
  have hstr := strOf_numsOf s
  have XB := Aside0.mk (numsOf_bytes s)
  rw [← hxs] at hlen XB hstr ⊢
  by_cases hlong : 16 < s.size
  · have TP := Aside0.mk (tparse_long xs (by rw [hlen]; exact hlong))
    have d1 : decide ((16 : Int) < (s.size : Int)) = true := decide_eq_true (by omega)
    have d2 : decide (16 < s.size) = true := decide_eq_true hlong
    clear hxs hlen hstr
    go_enter Try.func19, Try.ntmps19
    go_wp2_with fail
    refine bodyPost_ret (v := .tuple #[.int .i64 0, .int .i64 0, .int .i64 2]) (by simp [results, Try.results19, go_sem]) rfl ⟨ret3_eq TP.out, rfl⟩
  · have d1 : decide ((16 : Int) < (s.size : Int)) = false := decide_eq_false (by omega)
    have d2 : decide (16 < s.size) = false := decide_eq_false hlong
    have HL := Aside0.mk hlen
    have SS := Aside0.mk hstr
    have hs16 : s.size ≤ 16 := by omega
    clear hxs hlen hstr
    go_enter Try.func19, Try.ntmps19
    go_wp2_with fail
    clear d1 d2
    go_loopw [5] (fun i wr => ∃ k : Nat, k ≤ s.size ∧ i = .int .i64 k ∧ w = wr ∧ Aside0 (digs ((xs.take k).map plc))) (fun i _ => s.size - (intOf i).toNat)
    case atStart => exact ⟨0, Nat.zero_le _, rfl, rfl, ⟨by intro d hd; simp at hd⟩⟩
    case round =>
      obtain ⟨k, hk, rfl, rfl, HD⟩ := hrel
      by_cases hlt : k < s.size
      · have d1 : decide ((k : Int) < s.size) = true := decide_eq_true (by omega)
        have d2 : decide (k < s.size) = true := decide_eq_true hlt
        obtain ⟨x, hx⟩ : ∃ x, xs[k]? = some x := ⟨_, List.getElem?_eq_getElem (by rw [HL.out]; exact hlt)⟩
        have hxb := XB.out x (List.mem_of_getElem? hx)
        obtain ⟨p0, p1, p2⟩ := plc_range x hxb.1 hxb.2
        have hix : ∀ W : World, (Instr.index 9 (.string s) (.int .i64 k)).run Try.prog W = .ok (.int .u8 x) W := by rw [← SS.out]; exact tx_index 9 Try.underlying9 _ .i64 k k _ rfl hx hxb
        have P := Aside0.mk (rsign_ok x hxb)
        have X := Aside0.mk hx
        clear hx p2
        go_wp2_with fail
        refine (P.out _).mono ?_
        rintro e w' ⟨rfl, rfl⟩
        clear hix P d1 d2
        by_cases hneg : plc x < 0
        · have TP := Aside0.mk (tparse_byte xs (by rw [HL.out]; omega) k x X.out hneg)
          obtain ⟨y, hy⟩ : ∃ y, y = plc x := ⟨_, rfl⟩
          rw [← hy] at hneg ⊢
          clear hy p0 p1
          go_wp2_with fail
          refine bodyPost_ret (v := .tuple #[.int .i64 0, .int .i64 0, .int .i64 20]) (by simp [results, Try.results19, go_sem]) rfl ⟨ret3_eq TP.out, rfl⟩
        · have HD2 := Aside0.mk (show digs ((xs.take (k + 1)).map plc) by
            rw [take_snoc_of X.out, List.map_append]
            exact digs_snoc HD.out _ ⟨by omega, p1⟩)
          obtain ⟨y, hy⟩ : ∃ y, y = plc x := ⟨_, rfl⟩
          rw [← hy] at hneg ⊢
          clear hy p0 p1
          go_wp2_with fail
          go_roundw
          case rel => exact ⟨k + 1, by omega, by go_num, trivial, HD2⟩
          case measure => simp [intOf]; omega
      · have hk2 : k = s.size := by omega
        have et : xs.take k = xs := List.take_of_length_le (by rw [HL.out]; omega)
        rw [et] at HD
        clear et hk
        have TP1 := Aside0.mk (tparse_rest xs (by rw [HL.out]; omega) HD.out)
        have hms := map_sgn_plc xs XB.out HD.out
        have hpz := fun (j : Nat) (x : Int) (h : xs[j]? = some x) => XB.out x (List.mem_of_getElem? h)
        obtain ⟨ds, hds⟩ : ∃ ds, ds = xs.map plc := ⟨_, rfl⟩
        have DL := Aside0.mk (show ds.length = k by rw [hds, List.length_map, HL.out]; exact hk2.symm)
        have DA := Aside0.mk (show ∀ (j : Nat) (d : Int), ds[j]? = some d → ∃ x, xs[j]? = some x ∧ d = plc x ∧ 0 ≤ x ∧ x ≤ 255 by
          intro j d hj
          rw [hds, List.getElem?_map] at hj
          obtain ⟨x, hx, rfl⟩ := Option.map_eq_some_iff.1 hj
          exact ⟨x, hx, rfl, hpz j x hx⟩)
        rw [← hds] at HD TP1 hms
        have SD := Aside0.mk (show s = strOfNums (ds.map sgn) by rw [hms]; exact SS.out.symm)
        subst hk2
        clear hms hpz hds hlt
        by_cases hshort : s.size < 2
        · have TP := Aside0.mk (TP1.out.trans (show tparse2 ds = (0, 0, 10) from if_pos (by rw [DL.out]; exact hshort)))
          have d1 : decide ((s.size : Int) < 2) = true := decide_eq_true (by omega)
          have d2 : decide (s.size < 2) = true := decide_eq_true hshort
          go_wp2_with fail
          refine bodyPost_ret (v := .tuple #[.int .i64 0, .int .i64 0, .int .i64 10]) (by simp [results, Try.results19, go_sem]) rfl ⟨ret3_eq TP.out, rfl⟩
        · have d1 : decide ((s.size : Int) < 2) = false := decide_eq_false (by omega)
          have d2 : decide (s.size < 2) = false := decide_eq_false hshort
          have PS := Aside0.mk (fun W => rtsum_ok ds HD.out (by rw [DL.out]; exact hs16) s SD.out W)
          obtain ⟨n, hn⟩ : ∃ n, s.size = n + 1 := ⟨s.size - 1, by omega⟩
          obtain ⟨x, hx⟩ : ∃ x, ds[0]? = some x := ⟨_, List.getElem?_eq_getElem (by rw [DL.out]; omega)⟩
          obtain ⟨z, hz⟩ : ∃ z, ds[n]? = some z := ⟨_, List.getElem?_eq_getElem (by rw [DL.out]; omega)⟩
          have TE := Aside0.mk (TP1.out.trans (tparse2_eq ds n x z (by rw [DL.out]; exact hn) (by omega) hx hz))
          have hti := tcheck_iff (ds.take n) (fun d hd => HD.out d (List.mem_of_mem_take hd)) (by rw [List.length_take]; omega) z (HD.out z (List.mem_of_getElem? hz))
          have et : ds.take (n + 1) = ds := List.take_of_length_le (by rw [DL.out]; omega)
          rw [← take_snoc_of hz, et] at hti
          obtain ⟨t, ht⟩ : ∃ t, t = tsum 0 ds % 31 := ⟨_, rfl⟩
          rw [← ht] at hti PS
          have X := Aside0.mk hx
          have HN := Aside0.mk hn
          have hn1 : 1 ≤ n := by omega
          have hn15 : n ≤ 15 := by omega
          have hnn : (s.size : Int) - 1 = n := by omega
          have e1 : IntKind.i64.wrap ((s.size : Int) - 1) = n := by rw [hnn]; exact (i64_in (n : Int) (by omega) (by omega)).2
          have e2 : wrap64 ((s.size : Int) - 1) = n := by rw [hnn]; exact (i64_in (n : Int) (by omega) (by omega)).1
          clear ht hn hnn hz hx TP1 et
          by_cases hsum : t = 0
          · have TE2 := Aside0.mk (TE.out.trans (if_neg (by rw [Classical.not_not]; exact hti.2 hsum)))
            subst hsum
            clear hti TE
            go_wp2_with fail
            refine (PS.out _).mono ?_
            rintro e w' ⟨rfl, rfl⟩
            clear d1 d2
            go_wp2_with fail
            clear PS
            have hn0 : (1 : Int) ≤ n := by omega
            go_loopw [8, 6, 7] (fun i v o wr => ∃ (k : Nat) (r : Int) (ov : Bool), 1 ≤ k ∧ k ≤ n ∧ i = .int .i64 k ∧ v = .int .i64 r ∧ o = .bool ov ∧ w = wr ∧ 0 ≤ r ∧ r ≤ 1125899906842624 ∧
              Aside0 ((ov = false ∧ r = rval (((ds.take n).drop 1).take (k - 1))) ∨ (ov = true ∧ r = 1125899906842624 ∧ 1125899906842624 < rval (((ds.take n).drop 1).take (k - 1))))) (fun i _ _ _ => n - (intOf i).toNat)
            case atStart => exact ⟨1, 0, false, by omega, by omega, rfl, rfl, rfl, rfl, by omega, by omega, ⟨.inl ⟨rfl, rfl⟩⟩⟩
            case round =>
              obtain ⟨k, r, ov, hk1, hkn, rfl, rfl, rfl, rfl, hr0, hr1, HR⟩ := hrel
              by_cases hlt : k < n
              · have d1 : decide ((k : Int) < n) = true := decide_eq_true (by omega)
                have d2 : decide (k < n) = true := decide_eq_true hlt
                obtain ⟨d, hd⟩ : ∃ d, ds[k]? = some d := ⟨_, List.getElem?_eq_getElem (by rw [DL.out]; have := HN.out; omega)⟩
                obtain ⟨d0, d30⟩ := HD.out d (List.mem_of_getElem? hd)
                obtain ⟨y, hy, hdy, hy0, hy1⟩ := DA.out k d hd
                have hix : ∀ W : World, (Instr.index 9 (.string s) (.int .i64 k)).run Try.prog W = .ok (.int .u8 y) W := by rw [← SS.out]; exact tx_index 9 Try.underlying9 _ .i64 k k _ rfl hy ⟨hy0, hy1⟩
                have P := Aside0.mk (rsign_ok y ⟨hy0, hy1⟩)
                rw [← hdy] at P
                have hm : ((ds.take n).drop 1)[k - 1]? = some d := by
                  rw [List.getElem?_drop, show 1 + (k - 1) = k by omega, List.getElem?_take_of_lt hlt]
                  exact hd
                have RV := Aside0.mk (show rval (((ds.take n).drop 1).take k) = rval (((ds.take n).drop 1).take (k - 1)) * 31 + d by
                  have := take_snoc_of hm
                  rw [show k - 1 + 1 = k by omega] at this
                  rw [this, rval_snoc])
                obtain ⟨w1, w2⟩ := i64_in (r * 31) (by omega) (by omega)
                obtain ⟨w3, w4⟩ := i64_in (r * 31 + d) (by omega) (by omega)
                clear hd hy hdy hy0 hy1 hm
                cases ov
                · have hr : r = rval (((ds.take n).drop 1).take (k - 1)) := by
                    rcases HR.out with ⟨_, h⟩ | ⟨h, _⟩
                    · exact h
                    · cases h
                  have RV2 := Aside0.mk (show r * 31 + d = rval (((ds.take n).drop 1).take k) by rw [RV.out, ← hr])
                  clear hr RV HR
                  go_wp2_with fail
                  refine (P.out _).mono ?_
                  rintro e w' ⟨rfl, rfl⟩
                  clear hix
                  by_cases hov : 1125899906842624 < r * 31 + d
                  · go_wp2_with fail
                    clear w1 w2 w3 w4
                    go_roundw
                    case rel => exact ⟨k + 1, 1125899906842624, true, by omega, by omega, by go_num, rfl, rfl, trivial, by omega, by omega, ⟨.inr ⟨rfl, rfl, by rw [Nat.add_sub_cancel, ← RV2.out]; exact hov⟩⟩⟩
                    case measure => simp [intOf]; omega
                  · go_wp2_with fail
                    clear w1 w2 w3 w4
                    go_roundw
                    case rel => exact ⟨k + 1, r * 31 + d, false, by omega, by omega, by go_num, rfl, by rw [decide_eq_false (by omega)], trivial, by omega, by omega, ⟨.inl ⟨rfl, by rw [Nat.add_sub_cancel]; exact RV2.out⟩⟩⟩
                    case measure => simp [intOf]; omega
                · have RV2 := Aside0.mk (show 1125899906842624 < rval (((ds.take n).drop 1).take k) by
                    rcases HR.out with ⟨h, _⟩ | ⟨_, _, h⟩
                    · cases h
                    · rw [RV.out]; omega)
                  clear RV HR
                  go_wp2_with fail
                  refine (P.out _).mono ?_
                  rintro e w' ⟨rfl, rfl⟩
                  clear hix
                  go_wp2_with fail
                  clear w1 w2 w3 w4
                  go_roundw
                  case rel => exact ⟨k + 1, 1125899906842624, true, by omega, by omega, by go_num, rfl, rfl, trivial, by omega, by omega, ⟨.inr ⟨rfl, rfl, by rw [Nat.add_sub_cancel]; exact RV2.out⟩⟩⟩
                  case measure => simp [intOf]; omega
              · have hk2 : k = n := by omega
                subst hk2
                have em : ((ds.take k).drop 1).take (k - 1) = (ds.take k).drop 1 := List.take_of_length_le (by rw [List.length_drop, List.length_take]; omega)
                rw [em] at HR
                clear em hlt hkn
                obtain ⟨m, hm⟩ : ∃ m, m = rval ((ds.take k).drop 1) := ⟨_, rfl⟩
                rw [← hm] at HR TE2
                obtain ⟨x0, hx0, hdx0, hxb0⟩ := DA.out 0 x X.out
                obtain ⟨xd0, xd1⟩ := HD.out x (List.mem_of_getElem? X.out)
                have hix0 : ∀ W : World, (Instr.index 9 (.string s) (.int .i64 0)).run Try.prog W = .ok (.int .u8 x0) W := by rw [← SS.out]; exact tx_index 9 Try.underlying9 _ .i64 0 0 _ rfl hx0 hxb0
                have P0 := Aside0.mk (rsign_ok x0 hxb0)
                rw [← hdx0] at P0
                clear hx0 hdx0 hxb0 hm
                by_cases hform : 1 < k ∧ ds.getD 1 0 = 0
                · have TP := Aside0.mk (TE2.out.trans (if_pos hform))
                  obtain ⟨hk1', hd1⟩ := hform
                  have h1 : 1 < ds.length := by rw [DL.out]; have := HN.out; omega
                  rw [List.getD_eq_getElem?_getD, List.getElem?_eq_getElem h1] at hd1
                  obtain ⟨y, hy, hdy, hyb⟩ := DA.out 1 0 (by rw [List.getElem?_eq_getElem h1]; exact congrArg some hd1)
                  have hix : ∀ W : World, (Instr.index 9 (.string s) (.int .i64 1)).run Try.prog W = .ok (.int .u8 y) W := by rw [← SS.out]; exact tx_index 9 Try.underlying9 _ .i64 1 1 _ rfl hy hyb
                  have q : (y == 48) = true := by rw [plc_zero y hyb, ← hdy]; rfl
                  have d1 : decide ((2 : Int) < s.size) = true := decide_eq_true (by have := HN.out; omega)
                  have d2 : decide (2 < s.size) = true := decide_eq_true (by have := HN.out; omega)
                  clear hd1 h1 hy hdy hyb TE2
                  go_wp2_with fail
                  refine bodyPost_ret (v := .tuple #[.int .i64 0, .int .i64 0, .int .i64 51]) (by simp [results, Try.results19, go_sem]) rfl ⟨ret3_eq TP.out, rfl⟩
                · have TE3 := Aside0.mk (TE2.out.trans (if_neg hform))
                  have hcase : (decide ((2 : Int) < s.size) = false ∧ decide (2 < s.size) = false) ∨ ∃ y : Int, decide ((2 : Int) < s.size) = true ∧ decide (2 < s.size) = true ∧ (∀ W : World, (Instr.index 9 (.string s) (.int .i64 1)).run Try.prog W = .ok (.int .u8 y) W) ∧ (y == 48) = false := by
                    have hn := HN.out
                    by_cases hk1' : 1 < k
                    · right
                      have h1 : 1 < ds.length := by rw [DL.out]; omega
                      obtain ⟨y, hy, hdy, hyb⟩ := DA.out 1 _ (List.getElem?_eq_getElem h1)
                      refine ⟨y, decide_eq_true (by omega), decide_eq_true (by omega), ?_, ?_⟩
                      · rw [← SS.out]; exact tx_index 9 Try.underlying9 _ .i64 1 1 _ rfl hy hyb
                      · rw [plc_zero y hyb, ← hdy, beq_eq_false_iff_ne]
                        intro h0
                        exact hform ⟨hk1', by rw [List.getD_eq_getElem?_getD, List.getElem?_eq_getElem h1]; exact h0⟩
                    · exact .inl ⟨decide_eq_false (by omega), decide_eq_false (by omega)⟩
                  clear hform TE2 hn0
                  have hover : (ov = true ∧ 1125899906842624 < m) ∨ (ov = false ∧ r = m ∧ ¬ 1125899906842624 < m) := by
                    rcases HR.out with ⟨h1, h2⟩ | ⟨h1, h2, h3⟩
                    · exact .inr ⟨h1, h2, by omega⟩
                    · exact .inl ⟨h1, h3⟩
                  clear HR
                  have hend : (x < 8 ∧ ov = false ∧ Aside0 (tparse xs = (x, r, 0))) ∨ (¬ 8 ≤ x ∧ x < 8 ∧ ov = true ∧ Aside0 (tparse xs = (0, 0, 1))) ∨ (8 ≤ x ∧ Aside0 (tparse xs = (0, 0, 1))) := by
                    rcases hover with ⟨h1, h2⟩ | ⟨h1, h2, h3⟩
                    · have h4 := TE3.out.trans (if_pos h2)
                      by_cases h8 : 8 ≤ x
                      · exact .inr (.inr ⟨h8, ⟨h4⟩⟩)
                      · exact .inr (.inl ⟨h8, by omega, h1, ⟨h4⟩⟩)
                    · have h4 := TE3.out.trans (if_neg h3)
                      by_cases h8 : 8 ≤ x
                      · exact .inr (.inr ⟨h8, ⟨h4.trans (if_pos h8)⟩⟩)
                      · exact .inl ⟨by omega, h1, ⟨by rw [h2]; exact h4.trans (if_neg h8)⟩⟩
                  clear hover TE3
                  rcases hcase with ⟨d1, d2⟩ | ⟨y, d1, d2, hix, q⟩
                  all_goals
                    rcases hend with ⟨h8, rfl, TP⟩ | ⟨_, h8, rfl, TP⟩ | ⟨h8, TP⟩
                    · go_wp2_with fail
                      refine (P0.out _).mono ?_
                      rintro e w' ⟨rfl, rfl⟩
                      go_wp2_with fail
                      refine (P0.out _).mono ?_
                      rintro e w' ⟨rfl, rfl⟩
                      go_wp2_with fail
                      refine bodyPost_ret (v := .tuple #[.int .i64 x, .int .i64 r, .int .i64 0]) (by simp [results, Try.results19, go_sem]) rfl ⟨ret3_eq TP.out, rfl⟩
                    · go_wp2_with fail
                      refine (P0.out _).mono ?_
                      rintro e w' ⟨rfl, rfl⟩
                      go_wp2_with fail
                      refine bodyPost_ret (v := .tuple #[.int .i64 0, .int .i64 0, .int .i64 1]) (by simp [results, Try.results19, go_sem]) rfl ⟨ret3_eq TP.out, rfl⟩
                    · go_wp2_with fail
                      refine (P0.out _).mono ?_
                      rintro e w' ⟨rfl, rfl⟩
                      go_wp2_with fail
                      refine bodyPost_ret (v := .tuple #[.int .i64 0, .int .i64 0, .int .i64 1]) (by simp [results, Try.results19, go_sem]) rfl ⟨ret3_eq TP.out, rfl⟩
          · have TP := Aside0.mk (TE.out.trans (if_pos (fun h => hsum (hti.1 h))))
            have q : (t != 0) = true := by simpa using hsum
            clear hti TE hsum
            go_wp2_with fail
            refine (PS.out _).mono ?_
            rintro e w' ⟨rfl, rfl⟩
            clear d1 d2
            go_wp2_with fail
            refine bodyPost_ret (v := .tuple #[.int .i64 0, .int .i64 0, .int .i64 11]) (by simp [results, Try.results19, go_sem]) rfl ⟨ret3_eq TP.out, rfl⟩
end Go.Proofs.Ytloiclalcepbeaa
