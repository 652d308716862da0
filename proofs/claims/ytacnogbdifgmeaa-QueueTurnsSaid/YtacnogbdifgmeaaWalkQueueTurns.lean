/- QueueTurns' walk. -/
import Derived.Test.YtacnogbdifgmeaaQueueI
import Derived.Test.YtacnogbdifgmeaaQueueAwake
import Derived.Test.YtacnogbdifgmeaaMaps
import Derived.Test.YtacnogbdifgmeaaWLast
set_option linter.unusedVariables false
set_option linter.unusedSimpArgs false
namespace Go.Proofs.Ytacnogbdifgmeaa
open Go.RowKit Go.Conc Go.Maps Go.Proofs.YtacnogbdifgmeaaW.PrintWords Go.Proofs.YtacnogbdifgmeaaW.PrintLast

structure TurnsInv (inn out cap : Nat) (lst : Nat → Bool) (g : Lit → Option Value) (xs : List Int) : Prop where
  le : out ≤ inn
  below : ∀ i, lst i = true → i < inn
  eq : xs = ((List.range' out (inn - out)).filter (fun i => !lst i)).map (fun i : Nat => (i : Int))
  g : ∀ i : Nat, g (.int .i64 i) = if lst i then some (.bool true) else none
  room : xs.length ≤ cap
section
variable {inn out cap : Nat} {lst : Nat → Bool} {g : Lit → Option Value} {xs : List Int}
theorem TurnsInv.fresh (h : TurnsInv inn out cap lst g xs) : lst inn = false := by
  cases hl : lst inn with
  | false => rfl
  | true => have := h.below inn hl; omega
theorem TurnsInv.range (h : TurnsInv inn out cap lst g xs) : List.range' out (inn + 1 - out) = List.range' out (inn - out) ++ [inn] := by
  have := h.le
  rw [show inn + 1 - out = (inn - out) + 1 by omega, List.range'_concat]
  simp; omega
theorem TurnsInv.put (h : TurnsInv inn out cap lst g xs) (hr : xs.length < cap) : TurnsInv (inn + 1) out cap lst g (xs ++ [(inn : Int)]) where
  le := by have := h.le; omega
  below := fun i hi => by have := h.below i hi; omega
  eq := by rw [h.range, List.filter_append, List.map_append, ← h.eq]; simp [h.fresh]
  g := h.g
  room := by simp; omega
theorem TurnsInv.lose (h : TurnsInv inn out cap lst g xs) : TurnsInv (inn + 1) out cap (fun i => lst i || i == inn) (putF g (.int .i64 inn) (.bool true)) xs where
  le := by have := h.le; omega
  below := fun i hi => by
    simp only [Bool.or_eq_true, beq_iff_eq] at hi
    rcases hi with hi | hi
    · have := h.below i hi; omega
    · omega
  eq := by
    rw [h.range, List.filter_append, List.map_append]
    have e : (List.range' out (inn - out)).filter (fun i => !(lst i || i == inn)) = (List.range' out (inn - out)).filter (fun i => !lst i) := by
      apply List.filter_congr
      intro i hi
      have h1 : i < inn := by have := h.le; have := List.mem_range'.1 hi; omega
      have h2 : (i == inn) = false := beq_eq_false_iff_ne.2 (by omega)
      rw [h2, Bool.or_false]
    rw [e, ← h.eq]
    simp
  g := fun i => by
    by_cases e : i = inn
    · subst e; rw [putF_same]; simp
    · rw [putF_other _ _ _ _ (by simp; omega), h.g i]
      have h2 : (i == inn) = false := beq_eq_false_iff_ne.2 e
      rw [h2, Bool.or_false]
  room := h.room
theorem TurnsInv.skip (h : TurnsInv inn out cap lst g xs) (hl : lst out = true) : out < inn ∧ TurnsInv inn (out + 1) cap lst g xs := by
  have h1 := h.below out hl
  refine ⟨h1, ⟨by omega, h.below, ?_, h.g, h.room⟩⟩
  have e := h.eq
  rw [show inn - out = (inn - (out + 1)) + 1 by omega, List.range'_succ, List.filter_cons] at e
  simpa [hl] using e
theorem TurnsInv.take (h : TurnsInv inn out cap lst g xs) (hl : lst out = false) (h1 : out < inn) : ∃ r, xs = (out : Int) :: r ∧ TurnsInv inn (out + 1) cap lst g r := by
  have e := h.eq
  rw [show inn - out = (inn - (out + 1)) + 1 by omega, List.range'_succ, List.filter_cons] at e
  simp only [hl, Bool.not_false, if_true, List.map_cons] at e
  refine ⟨_, e, ⟨by omega, h.below, rfl, h.g, ?_⟩⟩
  have := h.room
  rw [e] at this
  simp only [List.length_cons] at this
  omega
theorem TurnsInv.none (h : TurnsInv inn inn cap lst g xs) : xs = [] := by
  have e := h.eq
  simpa using e
theorem TurnsInv.look (h : TurnsInv inn out cap lst g xs) (i : Nat) : (g (.int .i64 i)).getD (.bool false) = .bool (lst i) := by
  rw [h.g i]
  cases lst i <;> rfl
end

set_option maxHeartbeats 3200000 in
set_option maxRecDepth 100000 in
theorem queueTurns_ok (A : Option Addr) (turns : List Bool) (n ca cap : Nat) (w : World) (hA : Kd.bool.C w A n turns) (hca : n ≤ ca) (hn : n ≤ 140737488351232) (h0 : 1 ≤ cap) (h0' : cap ≤ 4096) :
    Calls Try.prog 6 #[.int .i64 cap, .slice A n ca] w fun e w' => e = .returned (.bool true) ∧ Below w.heap.size w w' := by
  have HA := Aside0.mk hA
  clear hA
  have hmm := @run_makeMap Try.prog
  go_enter Try.func6, Try.ntmps6
  go_wp2_with fail
  refine (qawake_ok (Hw.start w)).mono ?_
  rintro e w1 ⟨rfl, h1⟩
  have H1 := Aside0.mk h1
  clear h1
  go_wp2_with fail
  refine (qnewI_ok cap h0 h0' H1.out).mono ?_
  rintro e w2 ⟨p, rfl, h2⟩
  have H2 := Aside0.mk h2
  clear h2 H1
  obtain ⟨mb, hmb⟩ : ∃ mb, mb = w2.heap.size := ⟨_, rfl⟩
  have H3 := Aside0.mk (map_made (P := Try.prog) (k := 3) H2.out)
  rw [← hmb] at H3
  go_wp2_with fail
  rw [← hmb]
  clear H2 hmb hmm
  go_loopw [28, 7, 8] (fun i a b wr => ∃ (k inn out c : Nat) (lst : Nat → Bool) (g : Lit → Option Value) (xs : List Int), k ≤ n ∧ inn ≤ k ∧ c ≤ k ∧ out ≤ inn ∧ i = .int .i64 k ∧ a = .int .i64 inn ∧ b = .int .i64 out ∧ Aside0 (TurnsInv inn out cap lst g xs) ∧
    Aside0 (Hw w wr (mapHP Try.prog 3 mb g c * (queI p cap xs c * HP.emp)))) (fun i _ _ _ => n - (intOf i).toNat)
  case atStart => exact ⟨0, 0, 0, 0, fun _ => false, noF, [], by omega, by omega, by omega, by omega, rfl, rfl, rfl, ⟨⟨by omega, fun i hi => by simp at hi, rfl, fun i => rfl, by simp⟩⟩, ⟨H3.out⟩⟩
  case round =>
    obtain ⟨k, inn, out, c, lst, g, xs, hk, hik, hck, hoi, rfl, rfl, rfl, HI, HW⟩ := hrel
    clear H3
    by_cases hlt : k < n
    · obtain ⟨ad, x, e1, hcell, _⟩ := C_scalar_at (Kd.C_below HA.out HW.out.below) k hlt
      subst e1
      have hwf : (Lit.int .i64 inn).wf = true := WalkArith.wf_i64 (by omega)
      cases x with
      | true =>
        go_wp2_with fail
        have HB := Aside0.mk ((HW.out.as (Q := queI p cap xs c * (mapHP Try.prog 3 mb g c * HP.emp)) (by ac_rfl)).right_alloc (.cells ([(inn : Int)].map (Value.int .i64)).toArray 3 (0, 0)))
        refine (qputI_ok p cap xs [(inn : Int)] c _ 1 1 rfl HB.out (by omega) (by omega) (fun w' h' => C_blk (h1 := fun _ => rfl) (by simp) h'.blk_at.1) h0').mono ?_
        rintro e w3 ⟨j, hj, rfl, h4⟩
        clear HB HW
        by_cases hr : xs.length < cap
        · obtain rfl : j = 1 := by omega
          have H4 := Aside0.mk (h4.as (Q := mapHP Try.prog 3 mb g c * (queI p cap (xs ++ [(inn : Int)]) c * HP.emp) * blk wr.heap.size (.cells ([(inn : Int)].map (Value.int .i64)).toArray 3 (0, 0))) (by
            rw [List.take_of_length_le (l := [(inn : Int)]) (by simp), show (c : Int) + ((1 - 1 : Nat) : Int) = c by omega]
            ac_rfl)).left
          have HI2 := Aside0.mk (HI.out.put hr)
          clear h4 hj hr HI
          go_wp2_with fail
          go_roundw
          case rel => exact ⟨k + 1, inn + 1, out, c, lst, g, _, by omega, by omega, by omega, by omega, by go_num, by go_num, rfl, ⟨HI2.out⟩, ⟨H4.out⟩⟩
          case measure => simp [intOf]; omega
        · obtain rfl : j = 0 := by omega
          have hxl : xs.length = cap := by have := HI.out.room; omega
          have H4 := Aside0.mk (h4.as (Q := mapHP Try.prog 3 mb g c * (queI p cap xs ((c : Int) + 1) * HP.emp) * blk wr.heap.size (.cells ([(inn : Int)].map (Value.int .i64)).toArray 3 (0, 0))) (by
            rw [List.take_zero, List.append_nil, show (c : Int) + ((1 - 0 : Nat) : Int) = c + 1 by omega]
            ac_rfl)).left
          obtain ⟨w4, hput, h5⟩ := map_put H4.out (int_keyed Try.underlying3) Try.underlying46 (by unfold maxLen; omega) (.bool true) (keyOf_int_mk Try.underlying3 hwf)
          have hg0 : (g (.int .i64 inn)).isSome = false := by rw [HI.out.g inn, HI.out.fresh]; rfl
          rw [hg0] at h5
          have H5 := Aside0.mk (h5.as (Q := queI p cap xs ((c : Int) + 1) * (mapHP Try.prog 3 mb (putF g (.int .i64 inn) (.bool true)) (c + 1) * HP.emp)) (by simp only [Bool.false_eq_true, if_false]; ac_rfl))
          have HI2 := Aside0.mk HI.out.lose
          have XL := Aside0.mk hxl
          clear h4 h5 hj hr HI H4 hg0 hxl
          go_wp2_with fail
          refine (qlenI_k p cap xs _ cap XL.out H5.out).mono ?_
          rintro e w5 ⟨rfl, rfl⟩
          clear hput
          go_wp2_with fail
          go_roundw
          case rel => exact ⟨k + 1, inn + 1, out, c + 1, _, _, xs, by omega, by omega, by omega, by omega, by go_num, by go_num, rfl, ⟨HI2.out⟩, ⟨H5.out.as (by
            rw [show ((c + 1 : Nat) : Int) = (c : Int) + 1 by omega]
            ac_rfl)⟩⟩
          case measure => simp [intOf]; omega
      | false =>
        go_wp2_with fail
        go_loopw [8] (fun b w2 => ∃ out2 : Nat, out2 ≤ inn ∧ b = .int .i64 out2 ∧ Aside0 (TurnsInv inn out2 cap lst g xs) ∧
          Aside0 (Hw w w2 (mapHP Try.prog 3 mb g c * (queI p cap xs c * HP.emp)))) (fun b _ => inn - (intOf b).toNat)
        case atStart => exact ⟨out, hoi, rfl, ⟨HI.out⟩, ⟨HW.out⟩⟩
        case round =>
          obtain ⟨o2, ho2, rfl, HI2, HW2⟩ := hrel
          clear HI HW
          have hwf2 : (Lit.int .i64 o2).wf = true := WalkArith.wf_i64 (by omega)
          have hlook := map_look HW2.out (int_keyed Try.underlying3) Try.underlying46 (Try.zeroValue4 _) (keyOf_int_mk Try.underlying3 hwf2)
          rw [HI2.out.look o2] at hlook
          cases hl : lst o2 with
          | true =>
            rw [hl] at hlook
            obtain ⟨hlt2, hI3⟩ := HI2.out.skip hl
            have HI3 := Aside0.mk hI3
            clear hI3 hl HI2
            go_wp2_with fail
            go_roundw
            case rel => exact ⟨o2 + 1, by omega, by go_num, ⟨HI3.out⟩, ⟨HW2.out⟩⟩
            case measure => simp [intOf]; omega
          | false =>
            rw [hl] at hlook
            have H2 := Aside0.mk (HW2.out.as (Q := queI p cap xs c * (mapHP Try.prog 3 mb g c * HP.emp)) (by ac_rfl))
            by_cases hlt2 : o2 < inn
            · obtain ⟨r, hr, hI3⟩ := HI2.out.take hl hlt2
              have HI3 := Aside0.mk hI3
              subst hr
              clear hI3 hl HI2 HW2
              go_wp2_with fail
              refine (qtakeI_some p cap (o2 : Int) r c H2.out).mono ?_
              rintro e w5 ⟨rfl, h5⟩
              have H5 := Aside0.mk (h5.as (Q := mapHP Try.prog 3 mb g c * (queI p cap r c * HP.emp)) (by ac_rfl))
              clear h5 H2 hlook
              go_wp2_with fail
              go_roundw
              case rel => exact ⟨k + 1, inn, o2 + 1, c, lst, g, r, by omega, by omega, by omega, by omega, by go_num, rfl, by go_num, ⟨HI3.out⟩, ⟨H5.out⟩⟩
              case measure => simp [intOf]; omega
            · obtain rfl : o2 = inn := by omega
              obtain rfl := HI2.out.none
              clear hl
              go_wp2_with fail
              refine (qtakeI_none p cap c H2.out).mono ?_
              rintro e w5 ⟨rfl, rfl⟩
              clear hlook H2
              go_wp2_with fail
              go_roundw
              case rel => exact ⟨k + 1, o2, o2, c, lst, g, [], by omega, by omega, by omega, by omega, by go_num, rfl, rfl, ⟨HI2.out⟩, ⟨HW2.out⟩⟩
              case measure => simp [intOf]; omega
    · have H2 := Aside0.mk (HW.out.as (Q := queI p cap xs c * (mapHP Try.prog 3 mb g c * HP.emp)) (by ac_rfl))
      have hl := fun ty => map_len HW.out Try.underlying46 ty
      go_wp2_with fail
      refine (qlostI_ok p cap xs c H2.out).mono ?_
      rintro e w5 ⟨rfl, rfl⟩
      go_wp2_with fail
      go_ret
      exact ⟨rfl, H2.out.below⟩
set_option maxHeartbeats 1600000 in
set_option maxRecDepth 100000 in
theorem queueTurns_bad (A : Option Addr) (n ca : Nat) (s : Int) (w : World) (hs : s < 1 ∨ 4096 < s) :
    Calls Try.prog 6 #[.int .i64 s, .slice A n ca] w fun e w' => e = .returned (.bool true) ∧ Below w.heap.size w w' := by
  go_enter Try.func6, Try.ntmps6
  go_wp2_with fail
  refine (qawake_ok (Hw.start w)).mono ?_
  rintro e w1 ⟨rfl, h1⟩
  have b1 := h1.below
  clear h1
  go_wp2_with fail
  refine (qnewI_bad s hs).mono ?_
  rintro e w2 ⟨rfl, rfl⟩
  go_wp2_with fail
  go_ret
  exact ⟨rfl, b1⟩
theorem queueTurns_walk (s : Int) (A : Option Addr) (ca : Nat) (turns : List Bool) (w : World) (_ : (Lit.int .i64 s).wf = true) (hA : Kd.bool.C w A turns.length turns) (hca : turns.length ≤ ca)
    (sa : turns.length * 1 ≤ 140737488351232 ∧ ∀ x ∈ turns, True) :
    Calls Try.prog 6 #[.int .i64 s, .slice A turns.length ca] w fun e w' => e = .returned (.bool true) ∧ Below w.heap.size w w' := by
  by_cases h0 : s < 1 ∨ 4096 < s
  · exact queueTurns_bad A turns.length ca s w h0
  · obtain ⟨c, rfl⟩ : ∃ c : Nat, s = c := ⟨s.toNat, by omega⟩
    exact queueTurns_ok A turns turns.length ca c w hA hca (by omega) (by omega) (by omega)
end Go.Proofs.Ytacnogbdifgmeaa
