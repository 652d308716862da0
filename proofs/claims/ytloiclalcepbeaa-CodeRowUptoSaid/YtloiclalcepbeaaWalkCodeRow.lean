/- CodeRow's walk. -/
import Derived.Test.YtloiclalcepbeaaCodeF
import Derived.Test.YtloiclalcepbeaaCodeP
set_option linter.unusedVariables false
set_option linter.unusedSimpArgs false
namespace Go.Proofs.Ytloiclalcepbeaa
open Go.RowKit Go.Proofs.YtloiclalcepbeaaW.PrintWords Go.Proofs.YtloiclalcepbeaaW.PrintLast
theorem flat_encI_len (l : List Int) (h : ∀ x ∈ l, i64r x) : (l.flatMap encI).length ≤ 10 * l.length := flat_len encI 10 l (fun x hx => (encI_len x (h x hx)).2)
theorem compl_u64 (x : Int) (h : i64r x) (h0 : x < 0) : Go.bits .xor .u64 IntKind.u64.max (IntKind.u64.wrap x) = (mostN x : Int) := by
  unfold i64r at h
  have e1 : IntKind.u64.wrap x = (((x + 18446744073709551616).toNat : Nat) : Int) := by rw [IntKind.wrap_u64]; omega
  have e2 : IntKind.u64.max = ((2 ^ 64 - 1 : Nat) : Int) := by decide
  rw [e1, e2, bits_xor_u64_nat _ _ (by decide) (by omega), Lib.xor_ones64 _ (by omega)]
  unfold mostN
  rw [if_neg (by omega)]
  omega
set_option maxHeartbeats 6400000 in
set_option maxRecDepth 100000 in
theorem codeRow_ok (A : Option Addr) (n ca : Nat) (ns : List Int) (w : World) (hA : (Kd.int .i64).C w A n ns) (hn : n ≤ 1048576) (hok : ∀ x ∈ ns, i64r x) :
    Calls Try.prog 13 #[.slice A n ca] w fun e w' => e = .returned (.bool true) ∧ Below w.heap.size w w' := by
  have NL := Aside0.mk hA.1
  have XA := Aside0.mk hA
  have OK := Aside0.mk hok
  clear hA hok
  go_enter Try.func13, Try.ntmps13
  go_wp2_with fail
  refine (cawake_ok w).mono ?_
  rintro e w1 ⟨rfl, h1⟩
  have H1 := Aside0.mk (((Hw.start w).from_below h1).row_nil (Kd.int .u8) 5)
  clear h1
  go_wp2_with fail
  go_loopw [22, 3] (fun i v wr => ∃ (k m : Nat) (B : Option Addr) (c : Nat), k ≤ n ∧ i = .int .i64 k ∧ v = .slice B m c ∧ Aside0 (m = ((ns.take k).flatMap encI).length) ∧
    Aside0 (Hw w wr (row (Kd.int .u8) 5 (.slice B m c) ((ns.take k).flatMap encI) * HP.emp))) (fun i _ _ => n - (intOf i).toNat)
  case atStart => exact ⟨0, 0, none, 0, Nat.zero_le _, rfl, rfl, ⟨rfl⟩, H1⟩
  case round =>
    obtain ⟨k, m, B, c, hk, rfl, rfl, ML, HW⟩ := hrel
    clear H1
    by_cases hlt : k < n
    · obtain ⟨ad, x, rfl, hcell, hx⟩ := C_scalar_at (enc := Value.int .i64) (h1 := fun _ => rfl) (Kd.C_below XA.out HW.out.below) k hlt
      have hxr := OK.out x (List.mem_of_getElem? hx.out)
      have hm : m ≤ 10485760 := by
        have h1 := flat_encI_len (ns.take k) (fun y hy => OK.out y (List.mem_of_mem_take hy))
        rw [List.length_take] at h1
        have := ML.out
        omega
      have FT := Aside0.mk (flat_take encI hx.out)
      have P := Aside0.mk (putint_ok B m c ((ns.take k).flatMap encI) x hxr (by omega) (Ent.of_row (e := 5) (c := c)) HW.out)
      have ND := Aside0.mk (encI_nd x)
      have EL := Aside0.mk (encI_len x hxr)
      obtain ⟨l, hl⟩ : ∃ l, l = (encI x).length := ⟨_, rfl⟩
      have LL := Aside0.mk hl
      rw [← hl] at P
      clear hx hl
      go_wp2_with fail
      refine P.out.mono ?_
      rintro e w2 ⟨B', m', c', rfl, hm', g⟩
      have G := Aside0.mk g
      have MM := Aside0.mk hm'
      clear g hm' HW P hcell
      obtain ⟨mo, hmo⟩ : ∃ mo, mo = mostN x := ⟨_, rfl⟩
      have MO := Aside0.mk hmo
      have hmob : mo < 9223372036854775808 := by rw [hmo]; unfold mostN; unfold i64r at hxr; split <;> omega
      have hcase : (¬ x < 0 ∧ IntKind.u64.wrap x = mo) ∨ (x < 0 ∧ Go.bits .xor .u64 IntKind.u64.max (IntKind.u64.wrap x) = mo) := by
        by_cases h0 : 0 ≤ x
        · refine .inl ⟨by omega, ?_⟩
          rw [hmo]; unfold mostN; rw [if_pos h0, IntKind.wrap_u64]
          unfold i64r at hxr
          omega
        · refine .inr ⟨by omega, ?_⟩
          rw [hmo]
          exact compl_u64 x hxr (by omega)
      have hsz : (mo : Int) / 64 = ((mo / 64 : Nat) : Int) := by omega
      obtain ⟨z, hz⟩ : ∃ z, z = mo / 64 := ⟨_, rfl⟩
      have NZ := Aside0.mk (show l = nd z + 1 by rw [LL.out, ND.out, ← hmo, hz])
      have L10 : l ≤ 10 := by have := EL.out; have := LL.out; omega
      rw [← hz] at hsz
      clear hmo hz
      rcases hcase with ⟨d1, hw⟩ | ⟨d1, hw⟩
      all_goals
        go_wp2_with fail
        clear hw d1 hsz
        go_loopw [9, 8] (fun y j wr => ∃ (a b : Nat), y = .int .u64 a ∧ j = .int .i64 b ∧ b ≤ l ∧ Aside0 (b + nd a = l) ∧ w2 = wr) (fun y _ _ => (intOf y).toNat)
        case atStart => exact ⟨z, 1, rfl, rfl, by have := NZ.out; omega, ⟨by rw [NZ.out]; omega⟩, rfl⟩
        case round =>
          obtain ⟨a, b, rfl, rfl, hbl, NA, rfl⟩ := hrel
          by_cases ha : 0 < a
          · have hq : (a : Int) / 128 = ((a / 128 : Nat) : Int) := by omega
            obtain ⟨a2, ha2⟩ : ∃ a2, a2 = a / 128 := ⟨_, rfl⟩
            have NB := Aside0.mk (show (b + 1) + nd a2 = l by rw [← NA.out, nd_pos ha, ← ha2]; omega)
            have hb1 : b + 1 ≤ l := by have := NB.out; omega
            have ha3 : a2 < a := by omega
            rw [← ha2] at hq
            clear ha2
            go_wp2_with fail
            go_roundw
            case rel => exact ⟨a2, b + 1, by go_num, by go_num, hb1, NB, trivial⟩
            case measure => simp [intOf]; omega
          · have ha0 : a = 0 := by omega
            subst ha0
            have hb : b = l := by have := NA.out; rw [nd_zero] at this; omega
            subst hb
            have hsub : (m' : Int) - m = b := by have := MM.out; omega
            have s1 : wrap64 ((m' : Int) - m) = b := by rw [hsub]; exact (i64_in2 (b : Int) (by omega) (by omega)).1
            have s2 : IntKind.i64.wrap ((m' : Int) - m) = b := by rw [hsub]; exact (i64_in2 (b : Int) (by omega) (by omega)).2
            clear hsub ha
            go_wp2_with fail
            clear s1 s2
            go_roundw
            case rel => exact ⟨k + 1, m', B', c', by omega, by go_num, rfl, ⟨by rw [FT.out, List.length_append, ← ML.out, ← LL.out, MM.out]⟩, ⟨by rw [FT.out]; exact G.out.left.as (HP.mul_emp _).symm⟩⟩
            case measure => simp [intOf]; omega
    · have hk2 : k = n := by omega
      subst hk2
      have et : ns.take k = ns := List.take_of_length_le (by rw [NL.out]; exact Nat.le_refl _)
      rw [et] at ML HW
      have hrc := HW.out.row_C
      have hb : bytes (ns.flatMap encI) := by
        intro y hy
        obtain ⟨x, _, hx⟩ := List.mem_flatMap.1 hy
        exact venc_bytes _ y hx
      have HB := Aside0.mk hb
      have CC := Aside0.mk hrc.2.2
      have hmc := hrc.2.1
      have BEL := Aside0.mk HW.out.below
      have hmm : m ≤ 10485760 := by
        have h1 := flat_encI_len ns OK.out
        have := ML.out
        have := NL.out
        omega
      have XA2 := Aside0.mk (Kd.C_below XA.out BEL.out)
      obtain ⟨inf, hinf, hiz0, hiz1, hiz2⟩ := info_parts Try.infoU8
      have INF := Aside0.mk hinf
      have IZ := Aside0.mk hiz1
      clear et hlt hk hrc hb HW hinf hiz0 hiz1 hiz2
      go_wp2_with fail
      go_loopw [54, 3] (fun i v wr' => ∃ (j m2 : Nat) (B2 : Option Addr) (c2 : Nat), j ≤ k ∧ i = .int .i64 j ∧ v = .slice B2 m2 c2 ∧ m2 ≤ c2 ∧ m2 ≤ 10485760 ∧ wr = wr' ∧ Aside0 (m2 = ((ns.drop j).flatMap encI).length) ∧
        Aside0 ((Kd.int .u8).C wr B2 m2 ((ns.drop j).flatMap encI))) (fun i _ _ => k - (intOf i).toNat)
      case atStart => exact ⟨0, m, B, c, Nat.zero_le _, rfl, rfl, hmc, hmm, rfl, ML, CC⟩
      case round =>
        obtain ⟨j, m2, B2, c2, hj, rfl, rfl, hm2, hm2b, rfl, ML2, C2⟩ := hrel
        clear CC ML hmc hmm
        by_cases hlt : j < k
        · obtain ⟨ad, x, rfl, hcell, hx⟩ := C_scalar_at (enc := Value.int .i64) (h1 := fun _ => rfl) XA2.out j hlt
          have hxr := OK.out x (List.mem_of_getElem? hx.out)
          have hd : (ns.drop j).flatMap encI = encI x ++ (ns.drop (j + 1)).flatMap encI := by
            have h1 := List.getElem?_eq_some_iff.1 hx.out
            rw [List.drop_eq_getElem_cons h1.1, h1.2, List.flatMap_cons]
          have C3 := C2.out
          have M3 := ML2.out
          rw [hd] at C3 M3
          have hbx : bytes (encI x ++ (ns.drop (j + 1)).flatMap encI) := by
            rw [← hd]
            intro y hy
            obtain ⟨z, _, hz⟩ := List.mem_flatMap.1 hy
            exact venc_bytes _ y hz
          have P := Aside0.mk (getint_ok B2 m2 c2 _ wr C3 hbx)
          rw [getI_enc x hxr] at P
          have EL := Aside0.mk (encI_len x hxr)
          obtain ⟨l, hl⟩ : ∃ l, l = (encI x).length := ⟨_, rfl⟩
          rw [← hl] at P EL
          have hle : l ≤ m2 := by rw [M3, List.length_append, ← hl]; omega
          obtain ⟨A', hcut, hC2⟩ := sl_drop (Kd.int .u8) 35 5 Try.underlying35 INF.out IZ.out B2 m2 c2 (l : Int) l rfl hle hm2
          have D := Aside0.mk (show (Kd.int .u8).C wr A' (m2 - l) ((ns.drop (j + 1)).flatMap encI) by
            have h1 := hC2 wr _ C3
            have e9 : (encI x ++ (ns.drop (j + 1)).flatMap encI).drop l = (ns.drop (j + 1)).flatMap encI := by rw [hl, List.drop_left]
            rw [e9] at h1
            exact h1)
          have M4 := Aside0.mk (show m2 - l = ((ns.drop (j + 1)).flatMap encI).length by rw [M3, List.length_append, ← hl]; omega)
          have l1 : ¬ (l : Int) < 1 := by have := EL.out; omega
          have l2 : ¬ (m2 : Int) < l := by omega
          have q1 : (x != x) = false := by simp
          clear hx hd C3 M3 hbx hl hC2 C2 ML2
          go_wp2_with fail
          refine P.out.mono ?_
          rintro e w3 ⟨rfl, rfl⟩
          go_wp2_with fail
          go_roundw
          case rel => exact ⟨j + 1, m2 - l, A', c2 - l, by omega, by go_num, rfl, by omega, by omega, trivial, M4, D⟩
          case measure => simp [intOf]; omega
        · have hj2 : j = k := by omega
          subst hj2
          have ed : ns.drop j = [] := List.drop_of_length_le (by rw [NL.out]; exact Nat.le_refl _)
          have M3 := ML2.out
          have C3 := C2.out
          rw [ed] at M3 C3
          have hm0 : m2 = 0 := M3
          subst hm0
          have P := Aside0.mk (getint_ok B2 0 c2 [] wr C3 (by intro y hy; cases hy))
          rw [show getI [] = (0, 0, 10) from rfl] at P
          clear ed M3 C3 C2 ML2 hm2 hm2b
          go_wp2_with fail
          refine P.out.mono ?_
          rintro e w3 ⟨rfl, rfl⟩
          go_wp2_with fail
          go_ret
          exact ⟨rfl, BEL.out⟩
theorem i64r_wf {x : Int} (h : (Lit.int .i64 x).wf = true) : i64r x := by
  have h2 := h
  simp only [Lit.wf, Bool.and_eq_true, decide_eq_true_eq] at h2
  exact h2
theorem sum_ones {α : Type} : ∀ l : List α, (l.map fun _ => 1).sum = l.length
  | [] => rfl
  | _ :: l => by rw [List.map_cons, List.sum_cons, sum_ones l, List.length_cons]; omega
theorem codeRowUpto_walk (A : Option Addr) (ca : Nat) (ns : List Int) (w : World) (hA : (Kd.int .i64).C w A ns.length ns) (hca : ns.length ≤ ca) (sa : ns.length * 8 ≤ 140737488351232 ∧ ∀ x ∈ ns, (Lit.int .i64 x).wf = true) (hU : (ns.map fun _ => 1).sum + 1 ≤ 1048576) :
    Calls Try.prog 13 #[.slice A ns.length ca] w fun e w' => e = .returned (.bool true) ∧ Below w.heap.size w w' :=
  codeRow_ok A _ ca ns w hA (by rw [sum_ones] at hU; omega) (fun x hx => i64r_wf (sa.2 x hx))
end Go.Proofs.Ytloiclalcepbeaa
