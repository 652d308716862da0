/- Tokens: the document's functions. -/
import Derived.Test.YtloiclalcepbeaaTokenU
set_option linter.unusedVariables false
set_option linter.unusedSimpArgs false
namespace Go.Proofs.Ytloiclalcepbeaa
open Go.RowKit Go.Proofs.YtloiclalcepbeaaW.PrintWords Go.Proofs.YtloiclalcepbeaaW.PrintLast
theorem plc_found (x : Int) (k : Nat) (hk : k < 31) (h1 : sgn k = x) : plc x = k := by
  rw [← h1]
  exact plc_sgn k (by omega) (by omega)
theorem plc_none (x : Int) (hx : 0 ≤ x ∧ x ≤ 255) (h : ∀ j : Nat, j < 31 → sgn j ≠ x) : plc x = -1 := by
  obtain ⟨p0, p1, p2⟩ := plc_range x hx.1 hx.2
  rcases Int.lt_or_le (plc x) 0 with h0 | h0
  · omega
  · have := h (plc x).toNat (by omega)
    rw [Int.toNat_of_nonneg h0] at this
    exact absurd (p2 h0) this
set_option maxHeartbeats 1600000 in
set_option maxRecDepth 100000 in
theorem rsign_ok (x : Int) (hx : 0 ≤ x ∧ x ≤ 255) (w : World) : Calls Try.prog 38 #[.int .u8 x] w fun e w' => e = .returned (.int .i64 (plc x)) ∧ w = w' := by
  have HX := Aside0.mk hx
  clear hx
  go_enter Try.func38, Try.ntmps38
  go_wp2
  go_loopw [3] (fun i wr => ∃ k : Nat, k ≤ 31 ∧ i = .int .i64 k ∧ w = wr ∧ Aside0 (∀ j : Nat, j < k → sgn j ≠ x)) (fun i _ => 31 - (intOf i).toNat)
  case atStart => exact ⟨0, Nat.zero_le _, rfl, rfl, ⟨fun y hy => by omega⟩⟩
  case round =>
    obtain ⟨k, hk, rfl, rfl, HY⟩ := hrel
    by_cases hlt : k < 31
    · have hsg := sgn_run (P := Try.prog) 9 Try.underlying9 (k : Int) (by omega) (by omega)
      obtain ⟨y, hy⟩ : ∃ y, y = sgn k := ⟨_, rfl⟩
      rw [← hy] at hsg
      by_cases hyx : y = x
      · have FO := Aside0.mk (plc_found x k hlt (by rw [← hy, hyx]))
        have q : (y == x) = true := by simpa using hyx
        clear hy hyx
        go_wp2
        go_ret
        rw [FO.out]
        exact ⟨rfl, rfl⟩
      · have HN := Aside0.mk (show ∀ j : Nat, j < k + 1 → sgn j ≠ x by
          intro j hj
          by_cases h : j < k
          · exact HY.out j h
          · have : j = k := by omega
            subst this
            rw [← hy]
            exact hyx)
        have q : (y == x) = false := by simpa using hyx
        clear hy hyx
        go_wp2
        go_roundw
        case rel => exact ⟨k + 1, by omega, by go_num, trivial, HN⟩
        case measure => simp [intOf]; omega
    · have hk3 : k = 31 := by omega
      subst hk3
      go_wp2
      go_ret
      rw [plc_none x HX.out HY.out]
      exact ⟨rfl, rfl⟩
set_option maxHeartbeats 1600000 in
set_option maxRecDepth 100000 in
theorem rtsum_ok (ds : List Int) (hd : digs ds) (hl : ds.length ≤ 16) (s : ByteArray) (hs : s = strOfNums (ds.map sgn)) (w : World) : Calls Try.prog 36 #[.string s] w fun e w' => e = .returned (.int .i64 (tsum 0 ds % 31)) ∧ w = w' := by
  have S := Aside0.mk hs
  have hsz : s.size = ds.length := by rw [hs, tx_size, List.length_map]
  obtain ⟨n, hn⟩ : ∃ n, n = ds.length := ⟨_, rfl⟩
  rw [← hn] at hsz hl
  have SZ := Aside0.mk hsz
  have N := Aside0.mk hn
  have HD := Aside0.mk hd
  clear hs hsz hn hd
  go_enter Try.func36, Try.ntmps36
  go_wp2
  go_loopw [4, 3] (fun i v wr => ∃ (k : Nat) (t : Int), k ≤ n ∧ i = .int .i64 k ∧ v = .int .i64 t ∧ w = wr ∧ Aside0 (t = tsum 0 (ds.take k))) (fun i _ _ => n - (intOf i).toNat)
  case atStart => exact ⟨0, 0, Nat.zero_le _, rfl, rfl, rfl, ⟨rfl⟩⟩
  case round =>
    obtain ⟨k, t, hk, rfl, rfl, rfl, HT⟩ := hrel
    have hb := tsum_bound 0 (ds.take k) (fun x hx => HD.out x (List.mem_of_mem_take hx)) (by rw [List.length_take]; omega)
    rw [← HT.out, List.length_take, ← N.out] at hb
    have ht0 : 0 ≤ t := hb.1
    have ht1 : t ≤ 40000 := by omega
    clear hb
    by_cases hlt : k < n
    · have d1 : decide ((k : Int) < s.size) = true := decide_eq_true (by rw [SZ.out]; omega)
      have d2 : decide (k < s.size) = true := decide_eq_true (by rw [SZ.out]; omega)
      obtain ⟨d, hdk⟩ : ∃ d, ds[k]? = some d := ⟨_, List.getElem?_eq_getElem (by rw [← N.out]; exact hlt)⟩
      obtain ⟨d0, d30⟩ := HD.out d (List.mem_of_getElem? hdk)
      have hx : (ds.map sgn)[k]? = some (sgn d) := by rw [List.getElem?_map, hdk]; rfl
      have hsb := sgn_byte d d0 d30
      have hix : ∀ W : World, (Instr.index 9 (.string s) (.int .i64 k)).run Try.prog W = .ok (.int .u8 (sgn d)) W := by rw [S.out]; exact tx_index 9 Try.underlying9 _ .i64 k k _ rfl hx hsb
      have P := Aside0.mk (rsign_ok (sgn d) hsb)
      rw [plc_sgn d d0 d30] at P
      obtain ⟨w0, w1⟩ := weight_bound k d (by omega) d0 d30
      obtain ⟨p, hp⟩ : ∃ p, p = ((k : Int) + 1) * d := ⟨_, rfl⟩
      have TK := Aside0.mk (show t + p = tsum 0 (ds.take (k + 1)) by
        rw [take_snoc_of hdk, tsum_snoc, ← HT.out, List.length_take, Nat.min_eq_left (by rw [← N.out]; omega), hp]
        congr 2
        omega)
      rw [← hp] at w0 w1
      obtain ⟨e1, e2⟩ := i64_in p (by omega) (by omega)
      obtain ⟨e3, e4⟩ := i64_in (t + p) (by omega) (by omega)
      obtain ⟨y, hy⟩ : ∃ y, y = sgn d := ⟨_, rfl⟩
      rw [← hy] at hix P
      clear hy hx hsb hdk w0 w1
      rw [hp] at e1 e2 e3 e4
      go_wp2_with fail
      refine (P.out _).mono ?_
      rintro e w' ⟨rfl, rfl⟩
      clear hix
      go_wp2_with fail
      go_roundw
      case rel => exact ⟨k + 1, t + p, by omega, by go_num, by rw [hp], trivial, TK⟩
      case measure => simp [intOf]; omega
    · have d1 : decide ((k : Int) < s.size) = false := decide_eq_false (by rw [SZ.out]; omega)
      have d2 : decide (k < s.size) = false := decide_eq_false (by rw [SZ.out]; omega)
      have et : ds.take k = ds := List.take_of_length_le (by rw [← N.out]; omega)
      rw [et] at HT
      have e1 : t.tmod 31 = t % 31 := Int.tmod_eq_emod_of_nonneg ht0
      obtain ⟨e3, e4⟩ := i64_in (t % 31) (by omega) (by omega)
      go_wp2_with fail
      go_ret
      rw [← HT.out]
      exact ⟨rfl, rfl⟩
end Go.Proofs.Ytloiclalcepbeaa
