/- The frame's functions: the sum, a number's four bytes, and back. -/
import Derived.Test.YtehbchggekbkkaaChecked
import Derived.Test.YtehbchggekbkkaaFrameN
import Derived.Test.YtehbchggekbkkaaFocus
import Derived.Test.YtehbchggekbkkaaRowsHP
import Derived.Test.YtehbchggekbkkaaWLast
import Derived.BigQuiet
set_option linter.unusedVariables false
set_option linter.unusedSimpArgs false
namespace Go.Proofs.Ytehbchggekbkkaa
open Go.RowKit Go.Proofs.YtehbchggekbkkaaW.PrintWords Go.Proofs.YtehbchggekbkkaaW.PrintLast
/-! ### The bits, as the walk spells them -/
theorem bxor32 (a b : B32) : Go.bits .xor .u32 (a.toNat : Int) (b.toNat : Int) = ((a ^^^ b).toNat : Int) := by
  simp only [Go.bits, BitVec.ofInt_natCast]
  have e : ∀ x : B32, BitVec.ofNat IntKind.u32.bits x.toNat = x := fun x => BitVec.ofNat_toNat (m := 32) x
  rw [e a, e b, IntKind.wrap_u32]
  show ((a ^^^ b : B32).toNat : Int) % 4294967296 = ((a ^^^ b : B32).toNat : Int)
  have := (a ^^^ b : B32).isLt
  omega
theorem bxor32x (a : B32) (x : Int) : Go.bits .xor .u32 (a.toNat : Int) (x % 4294967296) = ((a ^^^ BitVec.ofInt 32 x).toNat : Int) := by
  have h : x % 4294967296 = ((BitVec.ofInt 32 x).toNat : Int) := by
    rw [BitVec.toNat_ofInt]; omega
  rw [h, bxor32]
theorem band32 (a : B32) : Go.bits .and .u32 (a.toNat : Int) 1 = bitI (a.getLsbD 0) := by
  have h := bits_mask .u32 32 (by decide) (fun n h0 h1 => by rw [IntKind.wrap_u32]; omega) 1 (by decide) (a.toNat : Int) (by omega) (by have := a.isLt; omega)
  have h2 : ((2 : Int) ^ 1 - 1) = 1 := rfl
  rw [h2] at h
  rw [h]
  have h3 : a.getLsbD 0 = decide (a.toNat / 2 ^ 0 % 2 = 1) := Nat.testBit_eq_decide_div_mod_eq
  rw [h3, Nat.pow_zero, Nat.div_one]
  unfold bitI
  by_cases h : a.toNat % 2 = 1
  · simp [h]; omega
  · simp [h]; omega
theorem shr32 (a : B32) : ((a.toNat : Nat) : Int) / (2 : Int) = ((a >>> 1).toNat : Int) := by
  rw [BitVec.toNat_ushiftRight, Nat.shiftRight_eq_div_pow]; simp
theorem xpoly (a : B32) : Go.bits .xor .u32 ((a.toNat : Int) / 2) 2197175160 = (((a >>> 1) ^^^ fpoly).toNat : Int) := by
  rw [shr32]
  exact bxor32 (a >>> 1) fpoly
theorem not32 (a : B32) : Go.bits .xor .u32 4294967295 (a.toNat : Int) = ((~~~ a).toNat : Int) := by
  have h := bxor32 (~~~ 0#32) a
  have e : ((~~~ 0#32 : B32).toNat : Int) = 4294967295 := by decide
  rw [e] at h
  rw [h]
  congr 2
theorem not32m (a : B32) : Go.bits .xor .u32 IntKind.u32.max (a.toNat : Int) = ((~~~ a).toNat : Int) := not32 a
theorem feeds_snoc (s : B32) (xs : List Int) (x : Int) : feeds s (xs ++ [x]) = feed (feeds s xs) x := by simp [feeds]
set_option maxHeartbeats 1600000 in
set_option maxRecDepth 100000 in
theorem fsum_ok (w : World) (A : Option Addr) (n c : Nat) (parts : List (List Int)) (hC : (Kd.slice 5 (Kd.int .u8)).C w A n parts) :
    Calls Try.prog 25 #[.slice A n c] w fun e w' => e = .returned (.int .u32 ((crc parts.flatten).toNat : Int)) ∧ w' = w := by
  have HC := Aside0.mk hC
  have hn : parts.length = n := hC.1
  have hm := hC.2.1
  have HN := Aside0.mk hn
  clear hC hn
  go_enter Try.func25, Try.ntmps25
  go_wp2
  go_loop [3, 10] (fun s i => ∃ k : Nat, k ≤ n ∧ i = .int .i64 k ∧ s = .int .u32 ((feeds (~~~ 0#32) (parts.take k).flatten).toNat : Int)) (fun _ i => n - (intOf i).toNat)
  case atStart => exact ⟨0, Nat.zero_le _, rfl, rfl⟩
  case round =>
    obtain ⟨k, hk, rfl, rfl⟩ := hrel
    by_cases hlt : k < n
    · obtain ⟨ad, A', c', x, e1, hcell, _, hx, hxC⟩ := C_row_at HC.out k hlt
      subst e1
      have HXL := hxC.out.2.1
      obtain ⟨nx, hnx⟩ : ∃ nx, nx = x.length := ⟨_, rfl⟩
      rw [← hnx] at hcell HXL
      have NX := Aside0.mk hnx
      clear hnx
      obtain ⟨s0, hs0⟩ : ∃ s0, s0 = feeds (~~~ 0#32) (parts.take k).flatten := ⟨_, rfl⟩
      rw [← hs0]
      have S0 := Aside0.mk hs0
      clear hs0
      go_wp2
      go_loop [3, 16] (fun s i => ∃ j : Nat, j ≤ nx ∧ i = .int .i64 j ∧ s = .int .u32 ((feeds s0 (x.take j)).toNat : Int)) (fun _ i => nx - (intOf i).toNat)
      case atStart => exact ⟨0, Nat.zero_le _, rfl, rfl⟩
      case round =>
        obtain ⟨j, hj, rfl, rfl⟩ := hrel
        by_cases hlj : j < nx
        · obtain ⟨bd, y, e2, hcy, hy⟩ := C_scalar_at hxC.out j (by rw [← NX.out]; exact hlj)
          subst e2
          obtain ⟨s1, hs1⟩ : ∃ s1, s1 = feeds s0 (x.take j) := ⟨_, rfl⟩
          rw [← hs1]
          have S1 := Aside0.mk hs1
          have hx32 := bxor32x s1 y
          clear hs1
          go_wp2
          go_loop [3, 24] (fun s i => ∃ m : Nat, m ≤ 8 ∧ i = .int .i64 m ∧ s = .int .u32 ((fsteps m (s1 ^^^ BitVec.ofInt 32 y)).toNat : Int)) (fun _ i => 8 - (intOf i).toNat)
          case atStart => exact ⟨0, Nat.zero_le _, rfl, rfl⟩
          case round =>
            obtain ⟨m, hm8, rfl, rfl⟩ := hrel
            obtain ⟨t, ht⟩ : ∃ t, t = fsteps m (s1 ^^^ BitVec.ofInt 32 y) := ⟨_, rfl⟩
            rw [← ht]
            have T := Aside0.mk ht
            clear ht hx32
            by_cases hlm : m < 8
            · have hb := band32 t
              have hp := xpoly t
              have hs := shr32 t
              cases hbit : t.getLsbD 0
              · have hst : fstep t = t >>> 1 := by unfold fstep; rw [hbit]; rfl
                rw [hbit] at hb
                have hb1 : bitI false = 0 := rfl
                rw [hb1] at hb
                have HST := Aside0.mk hst
                clear hst hbit hb1 hp
                go_wp2
                go_round
                case rel => exact ⟨m + 1, by omega, by go_num, by show _ = Value.int _ ((fstep (fsteps m _)).toNat : Int); rw [← T.out, HST.out]; first | rfl | rw [shr32]⟩
                case measure => simp [intOf]; omega
              · have hst : fstep t = (t >>> 1) ^^^ fpoly := by unfold fstep; rw [hbit]; rfl
                rw [hbit] at hb
                have hb1 : bitI true = 1 := rfl
                rw [hb1] at hb
                have HST := Aside0.mk hst
                clear hst hbit hb1 hs
                go_wp2
                go_round
                case rel => exact ⟨m + 1, by omega, by go_num, by show _ = Value.int _ ((fstep (fsteps m _)).toNat : Int); rw [← T.out, HST.out]; first | rfl | rw [shr32]⟩
                case measure => simp [intOf]; omega
            · have hm9 : m = 8 := by omega
              subst hm9
              go_wp2
              go_round
              case rel => exact ⟨j + 1, by omega, by go_num, by rw [take_snoc_of hy.out, feeds_snoc, ← S1.out, T.out]; rfl⟩
              case measure => simp [intOf]; omega
        · have hj2 : j = nx := by omega
          subst hj2
          go_wp2
          go_round
          case rel => exact ⟨k + 1, by omega, by go_num, by rw [flat_snoc_of hx.out, feeds_append, ← S0.out, List.take_of_length_le (by rw [NX.out]; omega)]⟩
          case measure => simp [intOf]; omega
    · have ek : parts.take k = parts := List.take_of_length_le (by rw [HN.out]; omega)
      rw [ek]
      clear ek
      go_wp2
      go_ret
      exact ⟨congrArg (fun z => Ending.returned (Value.int .u32 z)) (not32m _), rfl⟩
end Go.Proofs.Ytehbchggekbkkaa
