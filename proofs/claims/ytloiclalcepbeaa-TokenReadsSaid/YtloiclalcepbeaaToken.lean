/- Tokens: the check sign. -/
import Derived.Test.YtloiclalcepbeaaChecked
import Derived.Test.YtloiclalcepbeaaTokenM
import Derived.Test.YtloiclalcepbeaaText
import Derived.Test.YtloiclalcepbeaaWLast
import Derived.BigQuiet
set_option linter.unusedVariables false
set_option linter.unusedSimpArgs false
namespace Go.Proofs.Ytloiclalcepbeaa
open Go.RowKit Go.Proofs.YtloiclalcepbeaaW.PrintWords Go.Proofs.YtloiclalcepbeaaW.PrintLast
theorem i64_in (x : Int) (h0 : -9223372036854775808 ≤ x) (h1 : x ≤ 9223372036854775807) : wrap64 x = x ∧ IntKind.i64.wrap x = x := by
  constructor
  · unfold wrap64; omega
  · rw [IntKind.wrap_i64]; omega
set_option maxHeartbeats 1600000 in
set_option maxRecDepth 100000 in
theorem tcheck_ok (A : Option Addr) (n c : Nat) (ds : List Int) (w : World) (hC : (Kd.int .i64).C w A n ds) (hn : n ≤ 60) (hd : digs ds) :
    Calls Try.prog 32 #[.slice A n c] w fun e w' => e = .returned (.int .i64 (tcheck ds)) ∧ w' = w := by
  have HL := Aside0.mk hC.1
  have HC := Aside0.mk hC
  have HD := Aside0.mk hd
  clear hC hd
  go_enter Try.func32, Try.ntmps32
  go_wp2
  go_loopw [9, 3] (fun i s wr => ∃ k : Nat, k ≤ n ∧ i = .int .i64 k ∧ s = .int .i64 (tsum 0 (ds.take k)) ∧ w = wr) (fun i _ _ => n - (intOf i).toNat)
  case atStart => exact ⟨0, Nat.zero_le _, rfl, rfl, rfl⟩
  case round =>
    obtain ⟨k, hk, rfl, rfl, rfl⟩ := hrel
    by_cases hlt : k < n
    · obtain ⟨ad, x, rfl, hcell, hx⟩ := C_scalar_at (enc := Value.int .i64) (h1 := fun _ => rfl) HC.out k hlt
      obtain ⟨hx0, hx1⟩ := HD.out x (List.mem_of_getElem? hx.out)
      have hw0 := weight_bound k x (by omega) hx0 hx1
      have hb := tsum_bound 0 (ds.take k) (fun d hd => HD.out d (List.mem_of_mem_take hd)) (by rw [List.length_take]; omega)
      have hs : tsum 0 (ds.take (k + 1)) = tsum 0 (ds.take k) + ((k : Int) + 1) * x := by
        rw [take_snoc_of hx.out, tsum_snoc, List.length_take, HL.out]
        have : min k n = k := by omega
        rw [this]
        simp
      have hlen : ((ds.take k).length : Int) ≤ 60 := by rw [List.length_take]; omega
      obtain ⟨S, hS⟩ : ∃ S, S = tsum 0 (ds.take k) := ⟨_, rfl⟩
      obtain ⟨p, hp⟩ : ∃ p, p = ((k : Int) + 1) * x := ⟨_, rfl⟩
      rw [← hS] at hb hs ⊢
      rw [← hp] at hw0 hs
      obtain ⟨w1, w2⟩ := i64_in p (by omega) (by omega)
      obtain ⟨w3, w4⟩ := i64_in (S + p) (by omega) (by omega)
      obtain ⟨T, hT⟩ : ∃ T, T = tsum 0 (ds.take (k + 1)) := ⟨_, rfl⟩
      rw [← hT] at hs
      rw [hp] at w1 w2 w3 w4 hs
      have HT := Aside0.mk hT
      have HS := Aside0.mk hs
      clear hw0 hb hlen hs hT hp hx hS
      go_wp2
      go_roundw
      case rel => exact ⟨k + 1, by omega, by go_num, by rw [← HT.out, HS.out], trivial⟩
      case measure => simp [intOf]; omega
    · have hk2 : n = k := by omega
      subst hk2
      have et : ds.take n = ds := List.take_of_length_le (by rw [HL.out]; exact Nat.le_refl _)
      rw [et]
      clear et
      have hb := tsum_bound 0 ds HD.out (by rw [HL.out]; omega)
      rw [HL.out] at hb
      obtain ⟨S, hS⟩ : ∃ S, S = tsum 0 ds := ⟨_, rfl⟩
      rw [← hS] at hb ⊢
      have TO := Aside0.mk (show ∀ y : Nat, tok ds y = ((S + ((n : Int) + 1) * y) % 31 == 0) by intro y; unfold tok; rw [← hS, HL.out])
      clear hS
      go_wp2
      go_loopw [21] (fun i wr => ∃ k : Nat, k ≤ 31 ∧ i = .int .i64 k ∧ w = wr ∧ Aside0 (∀ y, y < k → tok ds y = false)) (fun i _ => 31 - (intOf i).toNat)
      case atStart => exact ⟨0, Nat.zero_le _, rfl, rfl, ⟨fun y hy => by omega⟩⟩
      case round =>
        obtain ⟨k, hk, rfl, rfl, HY⟩ := hrel
        by_cases hlt2 : k < 31
        · have hw0 := weight_bound n k (by omega) (by omega) (by omega)
          obtain ⟨p, hp⟩ : ∃ p, p = ((n : Int) + 1) * k := ⟨_, rfl⟩
          rw [← hp] at hw0
          obtain ⟨w1, w2⟩ := i64_in p (by omega) (by omega)
          obtain ⟨w3, w4⟩ := i64_in (S + p) (by omega) (by omega)
          have e1 : (S + p).tmod 31 = (S + p) % 31 := Int.tmod_eq_emod_of_nonneg (by omega)
          obtain ⟨w5, w6⟩ := i64_in ((S + p) % 31) (by omega) (by omega)
          by_cases hz : (S + p) % 31 = 0
          · have FO := Aside0.mk (tcheck_found ds k hlt2 (by rw [TO.out, ← hp, hz]; rfl) HY.out)
            rw [hp] at w1 w2 w3 w4 w5 w6 e1 hz
            clear hw0 hp
            go_wp2
            go_ret
            rw [FO.out]
            exact ⟨rfl, rfl⟩
          · have HN := Aside0.mk (show ∀ y, y < k + 1 → tok ds y = false by
              intro y hy
              by_cases h : y < k
              · exact HY.out y h
              · have : y = k := by omega
                subst this
                rw [TO.out, ← hp]
                simpa using hz)
            rw [hp] at w1 w2 w3 w4 w5 w6 e1 hz
            clear hw0 hp
            go_wp2
            go_roundw
            case rel => exact ⟨k + 1, by omega, by go_num, trivial, HN⟩
            case measure => simp [intOf]; omega
        · have hk3 : k = 31 := by omega
          subst hk3
          go_wp2
          go_ret
          rw [tcheck_none ds HY.out]
          exact ⟨rfl, rfl⟩
end Go.Proofs.Ytloiclalcepbeaa
