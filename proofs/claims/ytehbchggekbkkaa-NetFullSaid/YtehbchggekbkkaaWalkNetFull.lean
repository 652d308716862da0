/- NetFull's walk. -/
import Derived.Test.YtehbchggekbkkaaNetD
import Derived.Test.YtehbchggekbkkaaNetAwake
set_option linter.unusedVariables false
set_option linter.unusedSimpArgs false
namespace Go.Proofs.Ytehbchggekbkkaa
open Go.RowKit Go.Proofs.YtehbchggekbkkaaW.PrintWords
attribute [local go_sem] mx2_int mn2_int mx_two mn_two
def zpk : Pkt := (0, 0, [])
theorem zrep_snoc (n : Nat) : List.replicate n zpk ++ [zpk] = List.replicate (n + 1) zpk := (List.replicate_succ' (n := n)).symm
theorem zrep_filter (n : Nat) : (List.replicate n zpk).filter (fun z => z.2.1 != 0) = [] := by
  rw [List.filter_eq_nil_iff]
  intro x hx
  rw [List.eq_of_mem_replicate hx]
  decide
set_option maxHeartbeats 3200000 in
set_option maxRecDepth 100000 in
theorem netFull_ok (s c : Nat) (w : World) (hs : s ≤ 5000) (hc : c ≤ 5000) :
    Calls Try.prog 4 #[.int .i64 s, .int .i64 c] w fun e w' => e = .returned (.bool true) ∧ Below w.heap.size w w' := by
  go_enter Try.func4, Try.ntmps4
  go_wp2_with fail
  refine (nawake_ok (Hw.start w)).mono ?_
  rintro e w1 ⟨rfl, h1⟩
  have H1 := Aside0.mk h1
  clear h1
  have s1 : decide ((s : Int) < 0) = false := decide_eq_false (by omega)
  have s2 : decide ((c : Int) < 0) = false := decide_eq_false (by omega)
  have s3 : decide ((5000 : Int) < s) = false := decide_eq_false (by omega)
  have s4 : decide ((5000 : Int) < c) = false := decide_eq_false (by omega)
  have s5 : decide (5000 < s) = false := decide_eq_false (by omega)
  have s6 : decide (5000 < c) = false := decide_eq_false (by omega)
  go_wp2_with fail
  refine (nnew_ok 1 (by omega) (by omega) H1.out).mono ?_
  rintro e w2 ⟨p, rfl, h2⟩
  have H2 := Aside0.mk h2
  clear h2 H1 s1 s2 s3 s4 s5 s6
  go_wp2_with fail
  go_loopw [7] (fun i wr => ∃ k : Nat, k ≤ s ∧ i = .int .i64 k ∧ Aside0 (Hw w wr (net p 1 (List.replicate (min k 4096) zpk) * HP.emp))) (fun i _ => s - (intOf i).toNat)
  case atStart => exact ⟨0, Nat.zero_le _, rfl, ⟨H2.out⟩⟩
  case round =>
    obtain ⟨k, hk, rfl, HW⟩ := hrel
    clear H2
    by_cases hlt : k < s
    · by_cases hk4 : k < 4096
      · have dk : decide ((k : Int) < 4096) = true := decide_eq_true (by omega)
        rw [show min k 4096 = k by omega] at HW
        go_wp2_with fail
        refine (nsend_ok p 1 (List.replicate k zpk) 0 0 none 0 0 [] (by omega) (by omega) (by omega) (by omega) (by simpa using hk4) (by omega) (by omega) HW.out (Kd.C_nil _ _)).mono ?_
        rintro e w3 ⟨rfl, h3⟩
        have H3 := Aside0.mk h3
        clear h3 HW
        go_wp2_with fail
        go_roundw
        case rel => exact ⟨k + 1, by omega, by go_num, ⟨by rw [show min (k + 1) 4096 = k + 1 by omega, ← zrep_snoc]; exact H3.out⟩⟩
        case measure => simp [intOf]; omega
      · have dk : decide ((k : Int) < 4096) = false := decide_eq_false (by omega)
        rw [show min k 4096 = 4096 by omega] at HW
        go_wp2_with fail
        refine (nsend_full p 1 (List.replicate 4096 zpk) 0 0 none 0 0 (by omega) (by omega) (by omega) (by omega) (by simp) HW.out).mono ?_
        rintro e w3 ⟨rfl, h3⟩
        have H3 := Aside0.mk h3
        clear h3 HW
        go_wp2_with fail
        go_roundw
        case rel => exact ⟨k + 1, by omega, by go_num, ⟨by rw [show min (k + 1) 4096 = 4096 by omega]; exact H3.out⟩⟩
        case measure => simp [intOf]; omega
    · have ek : k = s := by omega
      subst ek
      by_cases hs0 : k = 0
      · subst hs0
        rw [show ((0 : Nat) : Int) = 0 from rfl]
        go_wp2_with fail
        go_loopw [9] (fun i wr2 => ∃ j : Nat, j ≤ c ∧ i = .int .i64 j ∧ Aside0 (Hw w wr2 (net p 1 [] * HP.emp))) (fun i _ => c - (intOf i).toNat)
        case atStart => exact ⟨0, Nat.zero_le _, rfl, ⟨HW.out⟩⟩
        case round =>
          obtain ⟨j, hj, rfl, HW2⟩ := hrel
          clear HW
          by_cases hlj : j < c
          · go_wp2_with fail
            refine (ncopy_none p 1 [] 0 (by simp) HW2.out).mono ?_
            rintro e w3 ⟨rfl, rfl⟩
            go_wp2_with fail
            go_roundw
            case rel =>
              exact ⟨j + 1, by omega, by go_num, ⟨HW2.out⟩⟩
            case measure => simp [intOf]; omega
          · have hj2 : j = c := by omega
            subst hj2
            obtain ⟨m, hm⟩ : ∃ m : Int, (if (4096 : Int) < j then (4096 : Int) else j) = m := ⟨_, rfl⟩
            go_wp2_with fail
            refine (nlen_ok p 1 [] 0 rfl HW2.out).mono ?_
            rintro e w3 ⟨rfl, rfl⟩
            go_wp2_with fail
            refine (nlose_ok p 1 [] 0 (by simp) HW2.out).mono ?_
            rintro e w3 ⟨rfl, h3⟩
            have H3 := Aside0.mk h3
            clear h3 HW2
            go_wp2_with fail
            refine (nlen_ok p 1 [] 0 rfl H3.out).mono ?_
            rintro e w4 ⟨rfl, rfl⟩
            go_wp2_with fail
            go_ret
            exact ⟨rfl, H3.out.below⟩
      · have hs1 : 0 < k := by omega
        have hb0 : ((k : Int) == 0) = false := beq_eq_false_iff_ne.2 (by omega)
        go_wp2_with fail
        go_loopw [9] (fun i wr2 => ∃ j : Nat, j ≤ c ∧ i = .int .i64 j ∧ Aside0 (Hw w wr2 (net p 1 (List.replicate (min (k + j) 4096) zpk) * HP.emp))) (fun i _ => c - (intOf i).toNat)
        case atStart => exact ⟨0, Nat.zero_le _, rfl, ⟨HW.out⟩⟩
        case round =>
          obtain ⟨j, hj, rfl, HW2⟩ := hrel
          clear HW
          by_cases hlj : j < c
          · go_wp2_with fail
            have hat : (List.replicate (min (k + j) 4096) zpk)[0]? = some (0, 0, []) := by rw [List.getElem?_replicate, if_pos (by omega)]; rfl
            refine (ncopy_ok p 1 (List.replicate (min (k + j) 4096) zpk) 0 0 0 [] (by rw [List.length_replicate]; omega) hat (by omega) (by omega) (by omega) (by omega) (by rw [List.length_replicate]; omega) (by simp) HW2.out).mono ?_
            rw [List.length_replicate]
            rintro e w3 (⟨hl, rfl, h3⟩ | ⟨hl, rfl, h3⟩)
            · have hkj : k + j < 4096 := by omega
              have HK := Aside0.mk hkj
              have hkj2 : decide ((k : Int) + j < 4096) = true := decide_eq_true (by omega)
              have H3 := Aside0.mk h3
              clear h3 HW2 hat hl
              go_wp2_with fail
              go_roundw
              case rel => exact ⟨j + 1, by omega, by go_num, ⟨by
                have h4 := H3.out
                have hkj := HK.out
                rw [show min (k + j) 4096 = k + j by omega] at h4
                rw [show min (k + (j + 1)) 4096 = k + j + 1 by omega, ← zrep_snoc]
                exact h4⟩⟩
              case measure => simp [intOf]; omega
            · have hkj : ¬ k + j < 4096 := by omega
              have HK := Aside0.mk hkj
              have hkj2 : decide ((k : Int) + j < 4096) = false := decide_eq_false (by omega)
              have H3 := Aside0.mk h3
              clear h3 HW2 hat hl
              go_wp2_with fail
              go_roundw
              case rel => exact ⟨j + 1, by omega, by go_num, ⟨by
                have h4 := H3.out
                have hkj := HK.out
                rw [show min (k + j) 4096 = 4096 by omega] at h4
                rw [show min (k + (j + 1)) 4096 = 4096 by omega]
                exact h4⟩⟩
              case measure => simp [intOf]; omega
          · have hj2 : j = c := by omega
            subst hj2
            obtain ⟨m, hm⟩ : ∃ m, m = min (k + j) 4096 := ⟨_, rfl⟩
            rw [← hm] at HW2
            have emin : (if (4096 : Int) < k + j then (4096 : Int) else k + j) = m := by split <;> omega
            have hm4 : m ≤ 4096 := by omega
            clear hm
            go_wp2_with fail
            refine (nlen_ok p 1 (List.replicate m zpk) m (by simp) HW2.out).mono ?_
            rintro e w3 ⟨rfl, rfl⟩
            go_wp2_with fail
            have h5 := nlose_ok p 1 (List.replicate m zpk) 0 (by simpa using hm4) HW2.out
            rw [zrep_filter, List.length_replicate, List.length_nil] at h5
            refine h5.mono ?_
            clear h5
            rintro e w3 ⟨rfl, h3⟩
            have H3 := Aside0.mk h3
            clear h3 HW2
            go_wp2_with fail
            refine (nlen_ok p 1 [] 0 rfl H3.out).mono ?_
            rintro e w4 ⟨rfl, rfl⟩
            go_wp2_with fail
            go_ret
            exact ⟨rfl, H3.out.below⟩
theorem netFull_bad (s c : Int) (w : World) (h : s < 0 ∨ c < 0 ∨ 5000 < s ∨ 5000 < c) :
    Calls Try.prog 4 #[.int .i64 s, .int .i64 c] w fun e w' => e = .returned (.bool true) ∧ Below w.heap.size w w' := by
  by_cases h1 : s < 0
  · go_enter Try.func4, Try.ntmps4
    go_wp2_with fail
    refine (nawake_ok (Hw.start w)).mono ?_
    rintro e w1 ⟨rfl, h1⟩
    have b1 := h1.below
    clear h1 h
    go_wp2_with fail
    go_ret
    exact ⟨rfl, b1⟩
  · have d1 : decide (s < 0) = false := by simpa using h1
    by_cases h2 : c < 0
    · go_enter Try.func4, Try.ntmps4
      go_wp2_with fail
      refine (nawake_ok (Hw.start w)).mono ?_
      rintro e w1 ⟨rfl, h1⟩
      have b1 := h1.below
      clear h1 h
      go_wp2_with fail
      go_ret
      exact ⟨rfl, b1⟩
    · have d2 : decide (c < 0) = false := by simpa using h2
      by_cases h3 : 5000 < s
      · go_enter Try.func4, Try.ntmps4
        go_wp2_with fail
        refine (nawake_ok (Hw.start w)).mono ?_
        rintro e w1 ⟨rfl, h1⟩
        have b1 := h1.below
        clear h1 h
        go_wp2_with fail
        go_ret
        exact ⟨rfl, b1⟩
      · have d3 : decide (5000 < s) = false := by simpa using h3
        have h4 : 5000 < c := by omega
        go_enter Try.func4, Try.ntmps4
        go_wp2_with fail
        refine (nawake_ok (Hw.start w)).mono ?_
        rintro e w1 ⟨rfl, h1⟩
        have b1 := h1.below
        clear h1 h
        go_wp2_with fail
        go_ret
        exact ⟨rfl, b1⟩
theorem netFull_walk (s c : Int) (w : World) (_ : (Lit.int .i64 s).wf = true) (_ : (Lit.int .i64 c).wf = true) :
    Calls Try.prog 4 #[.int .i64 s, .int .i64 c] w fun e w' => e = .returned (.bool true) ∧ Below w.heap.size w w' := by
  by_cases h : s < 0 ∨ c < 0 ∨ 5000 < s ∨ 5000 < c
  · exact netFull_bad s c w h
  · obtain ⟨a, rfl⟩ : ∃ a : Nat, s = a := ⟨s.toNat, by omega⟩
    obtain ⟨b, rfl⟩ : ∃ b : Nat, c = b := ⟨c.toNat, by omega⟩
    exact netFull_ok a b w (by omega) (by omega)
end Go.Proofs.Ytehbchggekbkkaa
