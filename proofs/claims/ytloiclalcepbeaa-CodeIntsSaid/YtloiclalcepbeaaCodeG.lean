/- Numbers read: GetInt. -/
import Derived.Test.YtloiclalcepbeaaCode
import Derived.Lib.Zigzag
set_option linter.unusedVariables false
set_option linter.unusedSimpArgs false
namespace Go.Proofs.Ytloiclalcepbeaa
open Go.RowKit Go.Proofs.YtloiclalcepbeaaW.PrintWords Go.Proofs.YtloiclalcepbeaaW.PrintLast
theorem i64_in2 (x : Int) (h0 : -9223372036854775808 ≤ x) (h1 : x ≤ 9223372036854775807) : wrap64 x = x ∧ IntKind.i64.wrap x = x := by
  refine ⟨?_, ?_⟩
  · unfold wrap64; omega
  · rw [IntKind.wrap_i64]; omega
theorem and127_table : ∀ a : Fin 256, Go.bits .and .u8 (a.val : Int) 127 = ((a.val % 128 : Nat) : Int) := by decide +kernel
theorem and127 (x : Int) (h0 : 0 ≤ x) (h1 : x ≤ 255) : Go.bits .and .u8 x 127 = ((x.toNat % 128 : Nat) : Int) := by
  obtain ⟨n, rfl⟩ : ∃ n : Nat, x = n := ⟨x.toNat, by omega⟩
  exact and127_table ⟨n, by omega⟩
theorem or64_sum (u y j : Nat) (hu : u < 2 ^ j) (hs : y * 2 ^ j + u < 18446744073709551616) : Go.bits .or .u64 (u : Int) ((y * 2 ^ j : Nat) : Int) = ((u + y * 2 ^ j : Nat) : Int) := by
  have h := (bits_nat .u64 64 (by decide) (fun n h0 h1 => by rw [IntKind.wrap_u64]; omega) u (y * 2 ^ j) (by omega) (by omega)).2
  rw [h]
  congr 1
  rw [Nat.or_comm, ← Nat.shiftLeft_eq, ← Nat.shiftLeft_add_eq_or_of_lt hu, Nat.shiftLeft_eq]
  omega
theorem xor_i64_m1 (x : Nat) (hx : x < 9223372036854775808) : Go.bits .xor .i64 (x : Int) (-1) = -(x : Int) - 1 := by
  rw [← Lib.i64_not x hx]
  show IntKind.i64.wrap ((BitVec.ofInt 64 (x : Int) ^^^ BitVec.ofInt 64 (-1)).toNat : Int) = IntKind.i64.wrap ((BitVec.ofInt 64 (-1) ^^^ BitVec.ofInt 64 (x : Int)).toNat : Int)
  rw [BitVec.xor_comm]
theorem xor_i64_0 (x : Nat) (hx : x < 9223372036854775808) : Go.bits .xor .i64 (x : Int) 0 = x := by
  show IntKind.i64.wrap ((BitVec.ofInt 64 (x : Int) ^^^ BitVec.ofInt 64 0).toNat : Int) = _
  have h2 : (BitVec.ofInt 64 (x : Int)).toNat = x := by
    rw [BitVec.ofInt_natCast, BitVec.toNat_ofNat]; exact Nat.mod_eq_of_lt (by omega)
  rw [show BitVec.ofInt 64 0 = 0#64 from rfl, BitVec.xor_zero, h2, IntKind.wrap_i64]
  omega
/-- What the last lines of GetInt reckon. -/
theorem zag_bits (v : Nat) (hv : v < 18446744073709551616) : ∃ h r : Nat, (v : Int) / 2 = h ∧ wrap64 (h : Int) = h ∧ IntKind.i64.wrap (h : Int) = h ∧ Go.bits .and .u64 (v : Int) 1 = r ∧ wrap64 (r : Int) = r ∧ IntKind.i64.wrap (r : Int) = r ∧ wrap64 (-(r : Int)) = -r ∧ IntKind.i64.wrap (-(r : Int)) = -r ∧ Go.bits .xor .i64 (h : Int) (-(r : Int)) = zag v := by
  have hr : v % 2 = 0 ∨ v % 2 = 1 := by omega
  refine ⟨v / 2, v % 2, by omega, (i64_in2 _ (by omega) (by omega)).1, (i64_in2 _ (by omega) (by omega)).2, ?_, (i64_in2 _ (by omega) (by omega)).1, (i64_in2 _ (by omega) (by omega)).2, (i64_in2 _ (by omega) (by omega)).1, (i64_in2 _ (by omega) (by omega)).2, ?_⟩
  · rw [Lib.u64_and1 _ (by omega) (by omega)]; omega
  · unfold zag
    rcases hr with hr | hr
    · rw [hr, if_pos rfl]
      exact xor_i64_0 _ (by omega)
    · rw [hr, if_neg (by decide)]
      exact xor_i64_m1 _ (by omega)
theorem pow7 (k : Nat) : (2 : Nat) ^ (7 * k) = 128 ^ k := by rw [Nat.pow_mul]
theorem pow7_le (k : Nat) (h : k ≤ 9) : (128 : Nat) ^ k ≤ 9223372036854775808 := Nat.le_trans (Nat.pow_le_pow_right (by decide) h) (by decide)
/-- One byte more. -/
theorem step_bits (u k : Nat) (x : Int) (hk : k ≤ 9) (h0 : 0 ≤ x) (h1 : x ≤ 255) (hu : u < 128 ^ k) (h9 : k = 9 → x ≤ 1) : ∃ y s v : Nat, y = x.toNat % 128 ∧ v = u + y * 128 ^ k ∧ v < 18446744073709551616 ∧ (k < 9 → v < 128 ^ (k + 1)) ∧
    Go.bits .and .u8 x 127 = y ∧ IntKind.u64.wrap (y : Int) = y ∧ IntKind.u64.wrap ((y : Int) * 2 ^ (7 * k)) = s ∧ Go.bits .or .u64 (u : Int) (s : Int) = v := by
  have hp := pow7_le k hk
  have hy : x.toNat % 128 ≤ 127 := by omega
  have hb : (x.toNat % 128) * 128 ^ k + u < 18446744073709551616 := by
    by_cases h : k = 9
    · have : x.toNat % 128 ≤ 1 := by have := h9 h; omega
      have := Nat.mul_le_mul_right (128 ^ k) this
      omega
    · have h8 : (128 : Nat) ^ k ≤ 128 ^ 8 := Nat.pow_le_pow_right (by decide) (by omega)
      have h9 : (128 : Nat) ^ 8 = 72057594037927936 := by decide
      have := Nat.mul_le_mul_right (128 ^ k) hy
      omega
  have e7 := pow7 k
  refine ⟨x.toNat % 128, (x.toNat % 128) * 128 ^ k, u + (x.toNat % 128) * 128 ^ k, rfl, rfl, by omega, ?_, and127 x h0 h1, by rw [IntKind.wrap_u64]; omega, ?_, ?_⟩
  · intro _
    have := Nat.mul_le_mul_right (128 ^ k) hy
    rw [Nat.pow_succ]
    omega
  · have e : ((x.toNat % 128 : Nat) : Int) * 2 ^ (7 * k) = (((x.toNat % 128) * 128 ^ k : Nat) : Int) := by
      rw [← e7]; push_cast; rfl
    rw [e, IntKind.wrap_u64]
    omega
  · have := or64_sum u (x.toNat % 128) (7 * k) (by rw [e7]; exact hu) (by rw [e7]; exact hb)
    rwa [e7] at this
/-- The number with which some bytes begin, how many they are, the error. -/
def gget : Nat → Nat → List Int → Int × Int × Int
  | _, _, [] => (0, 0, 10)
  | i, u, x :: r => if i = 9 ∧ 1 < x then (0, 0, 20) else if x < 128 then (if x = 0 ∧ 0 < i then (0, 0, 20) else (zag (u + x.toNat * 128 ^ i), (i : Int) + 1, 0)) else gget (i + 1) (u + (x.toNat - 128) * 128 ^ i) r
def getI (xs : List Int) : Int × Int × Int := gget 0 0 xs
set_option maxHeartbeats 1600000 in
set_option maxRecDepth 100000 in
theorem getint_ok (A : Option Addr) (n c : Nat) (xs : List Int) (w : World) (hC : (Kd.int .u8).C w A n xs) (hb : bytes xs) :
    Calls Try.prog 23 #[.slice A n c] w fun e w' => e = .returned (.tuple #[.int .i64 (getI xs).1, .int .i64 (getI xs).2.1, .int .i64 (getI xs).2.2]) ∧ w = w' := by
  have HC := Aside0.mk hC
  have HB := Aside0.mk hb
  have hm : n ≤ 9223372036854775807 := hC.2.1
  have NL := Aside0.mk hC.1
  clear hC hb
  go_enter Try.func23, Try.ntmps23
  go_wp2_with fail
  go_loopw [10, 5] (fun i v wr => ∃ (k u : Nat), k ≤ n ∧ k ≤ 9 ∧ i = .int .i64 k ∧ v = .int .u64 u ∧ w = wr ∧ Aside0 (u < 128 ^ k) ∧ Aside0 (getI xs = gget k u (xs.drop k))) (fun i _ _ => n - (intOf i).toNat)
  case atStart => exact ⟨0, 0, Nat.zero_le _, by omega, rfl, rfl, rfl, ⟨by simp⟩, ⟨by simp [getI]⟩⟩
  case round =>
    obtain ⟨k, u, hk, hk9, rfl, rfl, rfl, HU, HG⟩ := hrel
    by_cases hlt : k < n
    · obtain ⟨ad, x, rfl, hcell, hx⟩ := C_scalar_at (enc := Value.int .u8) (h1 := fun _ => rfl) HC.out k hlt
      obtain ⟨x0, x255⟩ := HB.out x (List.mem_of_getElem? hx.out)
      have hd : xs.drop k = x :: xs.drop (k + 1) := by
        have hl := (List.getElem?_eq_some_iff.1 hx.out).1
        rw [List.drop_eq_getElem_cons hl]
        congr 1
        exact (List.getElem?_eq_some_iff.1 hx.out).2
      have G1 := HG.out
      rw [hd] at G1
      have G := Aside0.mk G1
      clear G1 hd hx
      have kb : (k : Int) < n := by omega
      obtain ⟨w7, w7'⟩ := i64_in2 (7 * (k : Int)) (by omega) (by omega)
      obtain ⟨w8, w8'⟩ := i64_in2 ((k : Int) + 1) (by omega) (by omega)
      by_cases hbig : k = 9 ∧ 1 < x
      · have RES := Aside0.mk (show getI xs = (0, 0, 20) by rw [G.out]; unfold gget; rw [if_pos hbig])
        obtain ⟨h9, hx1⟩ := hbig
        have q9 : ((k : Int) == 9) = true := by simp; omega
        clear G HG HU w7 w7' w8 w8' h9
        go_wp2_with fail
        refine bodyPost_ret (v := .tuple #[.int .i64 0, .int .i64 0, .int .i64 20]) (by simp [results, Try.results23, go_sem]) rfl ⟨by rw [RES.out], rfl⟩
      · obtain ⟨y, s, v, hy, hv, hv64, hvk, e1, e2, e3, e4⟩ := step_bits u k x hk9 x0 x255 HU.out (by omega)
        have G2 := G.out
        unfold gget at G2
        rw [if_neg hbig] at G2
        have hq : ((k : Int) == 9) = false ∨ (((k : Int) == 9) = true ∧ x ≤ 1) := by
          by_cases h9 : k = 9
          · exact .inr ⟨by simp; omega, by omega⟩
          · exact .inl (by simp; omega)
        obtain ⟨h, r, z1, z2, z3, z4, z5, z6, z7, z8, z9⟩ := zag_bits v hv64
        have YY := Aside0.mk hy
        have VV := Aside0.mk hv
        have VK := Aside0.mk hvk
        have H9 : Aside0 (x < 128 ∨ k < 9) := ⟨by omega⟩
        clear G HG hy hv hvk hbig HU
        by_cases hx128 : x < 128
        · rw [if_pos hx128] at G2
          by_cases hz : x = 0 ∧ 0 < k
          · rw [if_pos hz] at G2
            have RES := Aside0.mk G2
            obtain ⟨rfl, hk0⟩ := hz
            clear G2 VK
            have hk0' : (0 : Int) < k := by omega
            clear z1 z2 z3 z4 z5 z6 z7 z8 z9
            rcases hq with hq | ⟨hq, hq1⟩
            all_goals
              go_wp2_with fail
              refine bodyPost_ret (v := .tuple #[.int .i64 0, .int .i64 0, .int .i64 20]) (by simp [results, Try.results23, go_sem]) rfl ⟨by rw [RES.out], rfl⟩
          · rw [if_neg hz] at G2
            have RES := Aside0.mk (show getI xs = (zag v, (k : Int) + 1, 0) by
              rw [G2, VV.out, YY.out, show x.toNat % 128 = x.toNat by omega])
            have hzc : (x == 0) = false ∨ ((x == 0) = true ∧ decide ((0 : Int) < k) = false ∧ decide (0 < k) = false) := by
              by_cases h0 : x = 0
              · exact .inr ⟨by simp [h0], decide_eq_false (by omega), decide_eq_false (by omega)⟩
              · exact .inl (by simp [h0])
            clear G2 hz VK
            rcases hq with hq | ⟨hq, hq1⟩
            all_goals
              rcases hzc with hzc | ⟨hzc, hz1, hz2⟩
              all_goals
                go_wp2_with fail
                refine bodyPost_ret (v := .tuple #[.int .i64 (zag v), .int .i64 ((k : Int) + 1), .int .i64 0]) (by simp [results, Try.results23, go_sem]) rfl ⟨by rw [RES.out], rfl⟩
        · rw [if_neg hx128] at G2
          have hk8 : k < 9 := by have := H9.out; omega
          have HU2 := Aside0.mk (VK.out hk8)
          have G3 := Aside0.mk (show getI xs = gget (k + 1) v (xs.drop (k + 1)) by
            rw [G2, VV.out, YY.out, show x.toNat % 128 = x.toNat - 128 by omega])
          have hq2 : ((k : Int) == 9) = false := by simp; omega
          clear G2 hq VK z1 z2 z3 z4 z5 z6 z7 z8 z9
          go_wp2_with fail
          clear w7 w7' w8 w8' e1 e2 e3 e4
          go_roundw
          case rel => exact ⟨k + 1, v, by omega, by omega, by go_num, rfl, trivial, HU2, G3⟩
          case measure => simp [intOf]; omega
    · have hk2 : k = n := by omega
      subst hk2
      have hd : xs.drop k = [] := List.drop_of_length_le (by rw [NL.out]; omega)
      have G1 := HG.out
      rw [hd] at G1
      have G := Aside0.mk G1
      clear G1 hd
      go_wp2_with fail
      refine bodyPost_ret (v := .tuple #[.int .i64 0, .int .i64 0, .int .i64 10]) (by simp [results, Try.results23, go_sem]) rfl ⟨by rw [G.out]; rfl, rfl⟩
end Go.Proofs.Ytloiclalcepbeaa
