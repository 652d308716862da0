/- NetKeeps' walk. -/
import Derived.Test.YtehbchggekbkkaaNetF
import Derived.Test.YtehbchggekbkkaaNetAwake
import Derived.Test.YtehbchggekbkkaaText
import Derived.Test.YtehbchggekbkkaaInc
set_option linter.unusedVariables false
set_option linter.unusedSimpArgs false
namespace Go.Proofs.Ytehbchggekbkkaa
open Go.RowKit Go.Proofs.YtehbchggekbkkaaW.PrintWords Go.Proofs.YtehbchggekbkkaaW.PrintLast
section
variable {w0 w : World} {F : HP}
theorem crow_cell_at {sz e n cap b off : Nat} {cs : List Value} (h : Hw w0 w (crow sz e (some ⟨b, off, none⟩) n cap cs * F)) (hn : 0 < n) (j : Nat) (u : Value) (hu : cs[j]? = some u) : w.cell? ⟨b, off + j, none⟩ = some u := by
  obtain ⟨b', off', e1, hc⟩ := crow_cell h hn
  injection e1 with e1
  injection e1 with e1 e2 _
  subst e1 e2
  exact (hc j u hu).1
theorem nflip_two (p : Nat) (k bit : Int) (xs : List Int) (hb : bytes xs) (hb1 : -9223372036854775808 ≤ bit) (hb2 : bit ≤ 9223372036854775807) (hx : xs.length ≤ 140737488355328) (h : Hw w0 w (net p k [(0, 0, xs), (0, 0, xs)] * F)) :
    Calls Try.prog 19 #[.pointer (some ⟨p, 0, none⟩), .int .i64 1, .int .i64 bit] w fun e w' => ∃ c ys, e = .returned (.int .i64 c) ∧ ys.length = xs.length ∧ Aside0 (Hw w0 w' (net p k [(0, 0, xs), (0, 0, ys)] * F)) ∧
      ((decide (0 ≤ bit) = false ∧ ((strOfNums ys).toList == (strOfNums xs).toList) = true) ∨ (0 ≤ bit ∧ decide (bit / 8 < (xs.length : Int)) = false ∧ ((strOfNums ys).toList == (strOfNums xs).toList) = true) ∨ (0 ≤ bit ∧ decide (bit / 8 < (xs.length : Int)) = true ∧ ((strOfNums ys).toList == (strOfNums xs).toList) = false)) := by
  by_cases h0 : bit < 0
  · refine (nflip_far p k _ 1 bit 0 0 xs (by simp) rfl (.inl h0) hb1 hb2 (by simp) h).mono ?_
    rintro e w' ⟨rfl, rfl⟩
    exact ⟨_, xs, rfl, rfl, ⟨h⟩, .inl ⟨decide_eq_false (by omega), by simp⟩⟩
  · by_cases h8 : (xs.length : Int) ≤ bit / 8
    · refine (nflip_far p k _ 1 bit 0 0 xs (by simp) rfl (.inr ⟨by omega, h8⟩) hb1 hb2 (by simp) h).mono ?_
      rintro e w' ⟨rfl, rfl⟩
      exact ⟨_, xs, rfl, rfl, ⟨h⟩, .inr (.inl ⟨by omega, decide_eq_false (by omega), by simp⟩)⟩
    · obtain ⟨b, rfl⟩ : ∃ b : Nat, bit = b := ⟨bit.toNat, by omega⟩
      have h8' : b / 8 < xs.length := by omega
      obtain ⟨v, hv⟩ : ∃ v, xs[b / 8]? = some v := ⟨_, List.getElem?_eq_getElem h8'⟩
      obtain ⟨hv0, hv1⟩ := hb v (List.mem_of_getElem? hv)
      obtain ⟨_, f2, f3, f4, _⟩ := flip8_at v (b % 8) hv0 hv1 (by omega)
      refine (nflip_ok p k _ 1 b 0 0 xs v (by simp) rfl hv hv0 hv1 hx (by simp) h).mono ?_
      rintro e w' ⟨rfl, h'⟩
      refine ⟨_, xs.set (b / 8) (flip8 v (b % 8)), rfl, by simp, ⟨h'⟩, .inr (.inr ⟨by omega, decide_eq_true (by omega), ?_⟩)⟩
      refine beq_eq_false_iff_ne.2 fun hh => ?_
      have h2 := tx_inj (fun x hx => ?_) hb (tx_toList.1 hh)
      · have h3 := congrArg (fun l : List Int => l[b / 8]?) h2
        simp only [List.getElem?_set_self h8', hv, Option.some.injEq] at h3
        exact f2 h3
      · rcases List.mem_or_eq_of_mem_set hx with h | rfl
        · exact hb x h
        · exact ⟨f3, f4⟩
end
set_option maxHeartbeats 6400000 in
set_option maxRecDepth 100000 in
theorem netKeeps_ok (A : Option Addr) (n ca : Nat) (xs : List Int) (bit : Int) (w : World) (hA : (Kd.int .u8).C w A n xs) (hca : n ≤ ca) (hn : n ≤ 140737488351232) (hb : bytes xs) (hb1 : -9223372036854775808 ≤ bit) (hb2 : bit ≤ 9223372036854775807) :
    Calls Try.prog 10 #[.slice A n ca, .int .i64 bit] w fun e w' => e = .returned (.bool true) ∧ Below w.heap.size w w' := by
  have HL := Aside0.mk hA.1
  have HA := Aside0.mk hA
  have HB := Aside0.mk hb
  clear hA hb
  go_enter Try.func10, Try.ntmps10
  go_wp2_with fail
  refine (nawake_ok (Hw.start w)).mono ?_
  rintro e w1 ⟨rfl, h1⟩
  have H1 := Aside0.mk h1
  clear h1
  go_wp2_with fail
  refine (nnew_ok 1 (by omega) (by omega) H1.out).mono ?_
  rintro e w2 ⟨p, rfl, h2⟩
  have H2 := Aside0.mk ((h2.alloc (.cells #[] 5)).row_empty (k := .u8))
  have HC2 := Aside0.mk (Kd.C_below HA.out H2.out.below)
  clear h2 H1
  go_wp2_with (first | (at_builtin; refine Hw.append_int (k := .u8) rfl (.tmp 24) (.tmp 25) 31 5 1 rfl Try.underlying31 Try.ninfoU8 (by decide) _ [] xs A n ca rfl rfl H2.out HC2.out (by simp; omega) xs rfl n HL.out ?_; intro A2 c2 w3 H3))
  have hc3 := H3.out.row_C
  have HN3 := Aside0.mk (H3.out.at (net p 1 []))
  refine (nsend_ok p 1 [] 0 0 A2 n c2 xs (by omega) (by omega) (by omega) (by omega) (by decide) hc3.2.1 (by omega) HN3.out hc3.2.2).mono ?_
  rintro e w4 ⟨rfl, h4⟩
  have H4 : Aside0 (Hw w w4 (net p 1 [(0, 0, xs)] * _)) := ⟨h4⟩
  clear h4 HN3 hc3 H2 HC2 H3
  go_wp2_with fail
  refine (ncopy_ok p 1 _ 0 0 0 xs (by simp) rfl (by omega) (by omega) (by omega) (by omega) (by simp) (by rw [HL.out]; omega) H4.out).mono ?_
  rintro e w5 (⟨_, rfl, h5⟩ | ⟨h, _, _⟩)
  rotate_left
  · simp at h
  have h5' : Hw w w5 (net p 1 [(0, 0, xs), (0, 0, xs)] * _) := h5
  have H5 : Aside0 (Hw w w5 (row (Kd.int .u8) 5 (.slice A2 n c2) (incTo 0 xs ++ []) * (net p 1 [(0, 0, xs), (0, 0, xs)] * HP.emp))) := ⟨by rw [incTo_zero, List.append_nil]; exact h5'.atR (Kd.int .u8) 5 (.slice A2 n c2)⟩
  clear h5 h5' H4
  go_wp2_with fail
  go_loopw [39, 8] (fun i _ wr => ∃ k : Nat, k ≤ n ∧ i = .int .i64 k ∧ Aside0 (Hw w wr (row (Kd.int .u8) 5 (.slice A2 n c2) (incTo k xs ++ []) * (net p 1 [(0, 0, xs), (0, 0, xs)] * HP.emp)))) (fun i _ _ => n - (intOf i).toNat)
  case atStart => exact ⟨0, Nat.zero_le _, rfl, H5⟩
  case round =>
    obtain ⟨k, hk, rfl, HW⟩ := hrel
    clear H5
    by_cases hlt : k < n
    · obtain ⟨x, hx⟩ : ∃ x, xs[k]? = some x := ⟨_, List.getElem?_eq_getElem (by rw [HL.out]; exact hlt)⟩
      obtain ⟨ad', rfl, hcx, hfx, hput⟩ := HW.out.row_int_at k x (incTo_at k xs [] x hx)
      have X := Aside0.mk hx
      clear hx HW
      go_wp2
      go_roundw
      case rel => exact ⟨k + 1, by omega, by go_num, ⟨hput.out ((x + 1) % 256) _ (incTo_set k xs [] x X.out)⟩⟩
      case measure => simp [intOf]; omega
    · have hk2 : n = k := by omega
      subst hk2
      have H6 := Aside0.mk (HW.out.at (net p 1 [(0, 0, xs), (0, 0, xs)]))
      clear HW
      go_wp2_with fail
      refine (npackets_ok p 1 _ (by simp) (by intro q hq; simp at hq; subst hq; show xs.length ≤ _; rw [HL.out]; omega) H6.out).mono ?_
      rintro e w6 ⟨B, c6, gs, rfl, hgs, h6⟩
      obtain ⟨⟨C1, n1, k1⟩, ⟨C2, n2, k2⟩, rfl⟩ : ∃ g1 g2 : Hdr, gs = [g1, g2] := by
        match gs, hgs with
        | [g1, g2], _ => exact ⟨g1, g2, rfl⟩
      obtain ⟨cs, hcs⟩ : ∃ cs, cs = pcells [(0, 0, xs), (0, 0, xs)] [(C1, n1, k1), (C2, n2, k2)] := ⟨_, rfl⟩
      have CS := Aside0.mk (show cs[2]? = some (.slice C1 n1 k1) by rw [hcs]; rfl)
      rw [← hcs] at h6
      obtain ⟨R, hR⟩ : ∃ R, R = (row (Kd.int .u8) 5 (.slice C2 n2 k2) xs * HP.emp) * (row (Kd.int .u8) 5 (.slice A2 n c2) (incTo n xs ++ []) * HP.emp) := ⟨_, rfl⟩
      have h7 : Hw w w6 (row (Kd.int .u8) 5 (.slice C1 n1 k1) xs * (crow 3 33 B 2 c6 cs * (net p 1 [(0, 0, xs), (0, 0, xs)] * R))) := h6.as (by
        rw [hR]
        show crow 3 33 B 2 c6 cs * ((row (Kd.int .u8) 5 (.slice C1 n1 k1) xs * (row (Kd.int .u8) 5 (.slice C2 n2 k2) xs * HP.emp)) * (net p 1 [(0, 0, xs), (0, 0, xs)] * _)) = _
        ac_rfl)
      have hn1 : n = n1 := by rw [h7.row_C.1, HL.out]
      subst hn1
      obtain ⟨b, off, rfl, hcc⟩ := crow_cell (h7.at (crow 3 33 B 2 c6 cs)) (by decide)
      have q2 := (hcc 2 _ CS.out).1
      have H7 : Aside0 (Hw w w6 (row (Kd.int .u8) 5 (.slice C1 n k1) (incTo 0 xs ++ []) * (crow 3 33 (some ⟨b, off, none⟩) 2 c6 cs * (net p 1 [(0, 0, xs), (0, 0, xs)] * R)))) := ⟨by rw [incTo_zero, List.append_nil]; exact h7⟩
      clear hgs hcs hR h6 h7 hcc H6
      go_wp2_with fail
      go_loopw [56, 10] (fun i _ wr => ∃ k : Nat, k ≤ n ∧ i = .int .i64 k ∧ Aside0 (Hw w wr (row (Kd.int .u8) 5 (.slice C1 n k1) (incTo k xs ++ []) * (crow 3 33 (some ⟨b, off, none⟩) 2 c6 cs * (net p 1 [(0, 0, xs), (0, 0, xs)] * R))))) (fun i _ _ => n - (intOf i).toNat)
      case atStart => exact ⟨0, Nat.zero_le _, rfl, H7⟩
      case round =>
        obtain ⟨k, hk, rfl, HW⟩ := hrel
        clear H7 q2
        by_cases hlt : k < n
        · obtain ⟨x, hx⟩ : ∃ x, xs[k]? = some x := ⟨_, List.getElem?_eq_getElem (by rw [HL.out]; exact hlt)⟩
          have q2 := crow_cell_at (HW.out.at (crow 3 33 (some ⟨b, off, none⟩) 2 c6 cs)) (by decide) 2 _ CS.out
          obtain ⟨ad', rfl, hcx, hfx, hput⟩ := HW.out.row_int_at k x (incTo_at k xs [] x hx)
          have X := Aside0.mk hx
          clear hx HW
          go_wp2
          go_roundw
          case rel => exact ⟨k + 1, by omega, by go_num, ⟨hput.out ((x + 1) % 256) _ (incTo_set k xs [] x X.out)⟩⟩
          case measure => simp [intOf]; omega
        · have hk2 : n = k := by omega
          subst hk2
          have H8 := Aside0.mk (HW.out.at (net p 1 [(0, 0, xs), (0, 0, xs)]))
          clear HW
          go_wp2_with fail
          refine (nflip_two p 1 bit xs HB.out hb1 hb2 (by rw [HL.out]; omega) H8.out).mono ?_
          rintro e w7 ⟨c7, ys, rfl, hly, H9, hcase⟩
          rw [HL.out] at hcase
          have CA := Aside0.mk hcase
          clear hcase H8
          go_wp2_with fail
          refine (ndeliver_ok p 1 _ 0 (by simp) (by simp) H9.out).mono ?_
          rintro e w8 ⟨f8, t8, A8, n8, c8, xs8, rfl, hp8, hn8, hc8, h8⟩
          obtain ⟨rfl, rfl, rfl⟩ : 0 = f8 ∧ 0 = t8 ∧ xs = xs8 := by simpa using hp8.out
          have e8 : n = n8 := by rw [hn8, HL.out]
          subst e8
          clear hn8
          have h8' : Hw w w8 (row (Kd.int .u8) 5 (.slice A8 n c8) xs * (net p 1 [(0, 0, ys)] * _)) := h8
          have H10 := Aside0.mk ((h8'.alloc (.cells #[.int .i64 0, .int .i64 0, .slice A8 n c8] 33)).at (net p 1 [(0, 0, ys)]))
          clear h8 h8' H9 hp8
          go_wp2_with fail
          refine (ndeliver_ok p 1 _ 0 (by simp) (by simp) H10.out).mono ?_
          rintro e w9 ⟨f9, t9, A9, n9, c9, xs9, rfl, hp9, hn9, hc9, h9⟩
          obtain ⟨rfl, rfl, rfl⟩ : 0 = f9 ∧ 0 = t9 ∧ ys = xs9 := by simpa using hp9.out
          have e9 : n = n9 := by rw [hn9, hly, HL.out]
          subst e9
          clear hn9 hly
          have H11 := Aside0.mk (h9.alloc (.cells #[.int .i64 0, .int .i64 0, .slice A9 n c9] 33))
          obtain ⟨s, hs⟩ : ∃ s, s = strOfNums xs := ⟨_, rfl⟩
          obtain ⟨t, ht⟩ : ∃ t, t = strOfNums ys := ⟨_, rfl⟩
          have cA : (convert 31 9 (.slice A n ca)).run Try.prog (w9.alloc (.cells #[.int .i64 0, .int .i64 0, .slice A9 n c9] 33)) = .ok (.string s) (w9.alloc (.cells #[.int .i64 0, .int .i64 0, .slice A9 n c9] 33)) := by rw [hs]; exact Kd.C_string Try.underlying31 Try.underlying5 Try.underlying9 (Kd.C_below HA.out H11.out.below)
          have c1 : (convert 31 9 (.slice A8 n c8)).run Try.prog (w9.alloc (.cells #[.int .i64 0, .int .i64 0, .slice A9 n c9] 33)) = .ok (.string s) (w9.alloc (.cells #[.int .i64 0, .int .i64 0, .slice A9 n c9] 33)) := by rw [hs]; exact (H11.out.atR (Kd.int .u8) 5 (.slice A8 n c8)).row_string Try.underlying31 Try.underlying5 Try.underlying9
          have c2' : (convert 31 9 (.slice A9 n c9)).run Try.prog (w9.alloc (.cells #[.int .i64 0, .int .i64 0, .slice A9 n c9] 33)) = .ok (.string t) (w9.alloc (.cells #[.int .i64 0, .int .i64 0, .slice A9 n c9] 33)) := by rw [ht]; exact (H11.out.atR (Kd.int .u8) 5 (.slice A9 n c9)).row_string Try.underlying31 Try.underlying5 Try.underlying9
          have u1 := H11.out.cellAt w8.heap.size 2 rfl
          have u2 := H11.out.cellAt w9.heap.size 2 rfl
          have ca2 := CA.out
          rw [← hs, ← ht] at ca2
          clear hs ht h9 hp9 H10 CA hlt hk
          rcases ca2 with ⟨d0, hq⟩ | ⟨d0, d1, hq⟩ | ⟨d0, d1, hq⟩
          all_goals
            go_wp2_with fail
            go_ret
            exact ⟨rfl, H11.out.below⟩
theorem bytes_of_wf {xs : List Int} (h : ∀ x ∈ xs, (Lit.int .u8 x).wf = true) : bytes xs := by
  intro x hx
  have := h x hx
  simp [Lit.wf] at this
  first | omega | (simp [IntKind.min, IntKind.max, IntKind.bits, IntKind.signed] at this; omega)
theorem netKeeps_walk (A : Option Addr) (ca : Nat) (xs : List Int) (bit : Int) (w : World) (hA : (Kd.int .u8).C w A xs.length xs) (hca : xs.length ≤ ca) (sa : xs.length * 1 ≤ 140737488351232 ∧ ∀ x ∈ xs, (Lit.int .u8 x).wf = true) (sb : (Lit.int .i64 bit).wf = true) :
    Calls Try.prog 10 #[.slice A xs.length ca, .int .i64 bit] w fun e w' => e = .returned (.bool true) ∧ Below w.heap.size w w' := by
  have hb : -9223372036854775808 ≤ bit ∧ bit ≤ 9223372036854775807 := by
    simp [Lit.wf] at sb
    first | omega | (simp [IntKind.min, IntKind.max, IntKind.bits, IntKind.signed] at sb; omega)
  exact netKeeps_ok A _ ca xs bit w hA hca (by have := sa.1; omega) (bytes_of_wf sa.2) hb.1 hb.2
end Go.Proofs.Ytehbchggekbkkaa
