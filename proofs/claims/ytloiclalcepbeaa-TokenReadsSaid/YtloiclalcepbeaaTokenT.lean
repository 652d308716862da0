/- Tokens, plain: a slip of the pen is told. -/
import Derived.Test.YtloiclalcepbeaaTokenQ
set_option linter.unusedVariables false
set_option linter.unusedSimpArgs false
namespace Go.Proofs.Ytloiclalcepbeaa
theorem inv_table : ∀ w : Fin 30, ∀ x y : Fin 31, ((w.val + 1) * x.val) % 31 = ((w.val + 1) * y.val) % 31 → x = y := by decide +kernel
theorem sol_table : ∀ w : Fin 30, ∀ s : Fin 31, ∃ x : Fin 31, (s.val + (w.val + 1) * x.val) % 31 = 0 := by decide +kernel
theorem inv31 (w : Nat) (hw1 : 1 ≤ w) (hw : w ≤ 30) (x y : Int) (hx : 0 ≤ x ∧ x ≤ 30) (hy : 0 ≤ y ∧ y ≤ 30) (h : ((w : Int) * x) % 31 = ((w : Int) * y) % 31) : x = y := by
  obtain ⟨n, rfl⟩ : ∃ n : Nat, x = n := ⟨x.toNat, by omega⟩
  obtain ⟨m, rfl⟩ : ∃ m : Nat, y = m := ⟨y.toNat, by omega⟩
  have h2 := inv_table ⟨w - 1, by omega⟩ ⟨n, by omega⟩ ⟨m, by omega⟩
  simp only [show w - 1 + 1 = w by omega, Fin.mk.injEq] at h2
  have h3 : (w * n) % 31 = (w * m) % 31 := by exact_mod_cast h
  rw [h2 h3]
theorem tsum_set : ∀ (i : Nat) (ds : List Int) (k : Nat) (d e : Int), ds[k]? = some d → tsum i (ds.set k e) = tsum i ds + ((i : Int) + k + 1) * (e - d)
  | i, [], k, d, e, h => by simp at h
  | i, x :: ds, 0, d, e, h => by
    obtain rfl : x = d := by simpa using h
    simp only [List.set_cons_zero, tsum]
    rw [Int.mul_sub]
    have : ((i : Int) + (0 : Nat) + 1) = (i : Int) + 1 := by omega
    rw [this]
    omega
  | i, x :: ds, k + 1, d, e, h => by
    simp only [List.set_cons_succ, tsum]
    rw [tsum_set (i + 1) ds k d e (by simpa using h)]
    have : (((i + 1 : Nat) : Int) + k + 1) = (i : Int) + ((k + 1 : Nat) : Int) + 1 := by omega
    rw [this]
    omega
theorem tcheck_tok (l : List Int) (hd : digs l) (hl : l.length ≤ 20) : tok l (tcheck l) = true := by
  obtain ⟨h0, h1⟩ := tsum_bound 0 l hd (by omega)
  obtain ⟨x, hx⟩ := sol_table ⟨l.length, by omega⟩ ⟨(tsum 0 l % 31).toNat, by omega⟩
  have ht : tok l x.val = true := by
    unfold tok
    rw [beq_iff_eq]
    simp only at hx
    have h2 : (((tsum 0 l % 31).toNat : Int) + ((l.length : Int) + 1) * x.val) % 31 = 0 := by exact_mod_cast hx
    rw [Int.toNat_of_nonneg (by omega)] at h2
    rw [← h2, Int.emod_add_emod]
  unfold tcheck
  cases hf : (List.range 31).find? (tok l) with
  | none =>
    rw [List.find?_eq_none] at hf
    exact absurd ht (by simpa using hf x.val (by simp))
  | some y => exact List.find?_some hf
theorem tcheck_iff (l : List Int) (hd : digs l) (hl : l.length ≤ 20) (z : Int) (hz : 0 ≤ z ∧ z ≤ 30) : (tcheck l : Int) = z ↔ tsum 0 (l ++ [z]) % 31 = 0 := by
  have h1 := tcheck_tok l hd hl
  unfold tok at h1
  rw [beq_iff_eq] at h1
  have hc := tcheck_lt l
  rw [tsum_snoc]
  have e : ((0 : Nat) : Int) + l.length + 1 = (l.length : Int) + 1 := by omega
  rw [e]
  obtain ⟨c, hcc⟩ : ∃ c : Int, c = (tcheck l : Int) := ⟨_, rfl⟩
  have hcr : 0 ≤ c ∧ c ≤ 30 := by omega
  rw [← hcc] at h1 ⊢
  constructor
  · rintro rfl; exact h1
  · intro h
    refine inv31 (l.length + 1) (by omega) (by omega) c z hcr hz ?_
    have e2 : (((l.length + 1 : Nat) : Int)) = (l.length : Int) + 1 := by omega
    rw [e2]
    omega
theorem tparse_sum (xs : List Int) (h2 : 2 ≤ xs.length) (h16 : xs.length ≤ 16) (hd : digs (xs.map plc)) (hs : tsum 0 (xs.map plc) % 31 ≠ 0) : tparse xs = (0, 0, 11) := by
  rw [tparse_rest xs h16 hd]
  have hl : (xs.map plc).length = xs.length := by simp
  obtain ⟨ds, hds⟩ : ∃ ds, ds = xs.map plc := ⟨_, rfl⟩
  rw [← hds] at hd hs hl ⊢
  obtain ⟨n, hn⟩ : ∃ n, ds.length = n + 1 := ⟨ds.length - 1, by omega⟩
  obtain ⟨x, hx⟩ : ∃ x, ds[0]? = some x := ⟨_, List.getElem?_eq_getElem (by omega)⟩
  obtain ⟨z, hz⟩ : ∃ z, ds[n]? = some z := ⟨_, List.getElem?_eq_getElem (by omega)⟩
  rw [tparse2_eq ds n x z hn (by omega) hx hz, if_pos]
  intro hc
  have e : ds.take n ++ [z] = ds := by
    rw [← take_snoc_of hz]
    exact List.take_of_length_le (by omega)
  have := (tcheck_iff (ds.take n) (fun d h => hd d (List.mem_of_mem_take h)) (by rw [List.length_take]; omega) z (hd z (List.mem_of_getElem? hz))).1 hc
  rw [e] at this
  exact hs this
theorem digs_set {ds : List Int} (hd : digs ds) (k : Nat) (e : Int) (he : 0 ≤ e ∧ e ≤ 30) : digs (ds.set k e) := by
  intro x hx
  rcases List.mem_or_eq_of_mem_set hx with h | h
  · exact hd x h
  · rw [h]; exact he
theorem tdigits_sum (a b : Nat) (ha : a < 8) (hb : b ≤ 1125899906842624) : tsum 0 (tdigits a b) % 31 = 0 := by
  have hB := tbody_len a b hb
  have hc := tcheck_lt (tbody a b)
  exact (tcheck_iff (tbody a b) (tbody_digs a b ha) (by omega) (tcheck (tbody a b) : Int) ⟨by omega, by omega⟩).1 rfl
theorem tdigits_len (a b : Nat) (hb : b ≤ 1125899906842624) : 2 ≤ (tdigits a b).length ∧ (tdigits a b).length ≤ 13 := by
  have hB := tbody_len a b hb
  have h1 : (tdigits a b).length = (tbody a b).length + 1 := by simp [tdigits]
  have h2 : 1 ≤ (tbody a b).length := by simp [tbody]
  omega
theorem mod31_mul (w : Nat) (hw1 : 1 ≤ w) (hw : w ≤ 30) (d e s : Int) (hd : 0 ≤ d ∧ d ≤ 30) (he : 0 ≤ e ∧ e ≤ 30) (hs : s % 31 = 0) (h : (s + (w : Int) * (e - d)) % 31 = 0) : e = d := by
  refine inv31 w hw1 hw e d he hd ?_
  rw [Int.mul_sub] at h
  omega
/-- One sign for another. -/
theorem tells_change (a b : Nat) (ha : a < 8) (hb : b ≤ 1125899906842624) (k : Nat) (x v : Int) (hx : 0 ≤ x ∧ x ≤ 255) (hv : ((tdigits a b).map sgn)[k]? = some v) (hne : x ≠ v) :
    ∃ e : Int, tparse (((tdigits a b).map sgn).set k x) = (0, 0, e) ∧ (e = 11 ∨ e = 20) := by
  obtain ⟨l2, l13⟩ := tdigits_len a b hb
  have hd := tdigits_digs a b ha
  have hs := tdigits_sum a b ha hb
  obtain ⟨ds, hds⟩ : ∃ ds, ds = tdigits a b := ⟨_, rfl⟩
  rw [← hds] at l2 l13 hd hs hv ⊢
  rw [List.getElem?_map] at hv
  obtain ⟨d, hdk, rfl⟩ := Option.map_eq_some_iff.1 hv
  have hk : k < ds.length := (List.getElem?_eq_some_iff.1 hdk).1
  obtain ⟨p0, p1, p2⟩ := plc_range x hx.1 hx.2
  by_cases hn : plc x < 0
  · exact ⟨20, tparse_byte _ (by simp; omega) k x (by rw [List.getElem?_set_self (by simpa using hk)]) hn, .inr rfl⟩
  · refine ⟨11, tparse_sum _ (by simp; omega) (by simp; omega) ?_ ?_, .inl rfl⟩
    all_goals rw [List.map_set, map_plc_sgn ds hd]
    · exact digs_set hd k _ ⟨by omega, p1⟩
    · rw [tsum_set 0 ds k d _ hdk]
      intro h
      have e : ((0 : Nat) : Int) + (k : Int) + 1 = ((k + 1 : Nat) : Int) := by omega
      rw [e] at h
      have := mod31_mul (k + 1) (by omega) (by omega) d (plc x) (tsum 0 ds) (hd d (List.mem_of_getElem? hdk)) ⟨by omega, p1⟩ hs h
      exact hne (by rw [← p2 (by omega), this])
/-- Two neighbours turned about. -/
theorem tells_turn (a b : Nat) (ha : a < 8) (hb : b ≤ 1125899906842624) (k : Nat) (v u : Int) (hv : ((tdigits a b).map sgn)[k]? = some v) (hu : ((tdigits a b).map sgn)[k + 1]? = some u) (hne : v ≠ u) :
    tparse ((((tdigits a b).map sgn).set k u).set (k + 1) v) = (0, 0, 11) := by
  obtain ⟨l2, l13⟩ := tdigits_len a b hb
  have hd := tdigits_digs a b ha
  have hs := tdigits_sum a b ha hb
  obtain ⟨ds, hds⟩ : ∃ ds, ds = tdigits a b := ⟨_, rfl⟩
  rw [← hds] at l2 l13 hd hs hv hu ⊢
  rw [List.getElem?_map] at hv hu
  obtain ⟨d, hdk, rfl⟩ := Option.map_eq_some_iff.1 hv
  obtain ⟨c, hck, rfl⟩ := Option.map_eq_some_iff.1 hu
  have hk : k + 1 < ds.length := (List.getElem?_eq_some_iff.1 hck).1
  have bd := hd d (List.mem_of_getElem? hdk)
  have bc := hd c (List.mem_of_getElem? hck)
  have e0 : (((ds.map sgn).set k (sgn c)).set (k + 1) (sgn d)).map plc = (ds.set k c).set (k + 1) d := by
    rw [List.map_set, List.map_set, map_plc_sgn ds hd, plc_sgn d bd.1 bd.2, plc_sgn c bc.1 bc.2]
  refine tparse_sum _ (by simp; omega) (by simp; omega) ?_ ?_
  all_goals rw [e0]
  · exact digs_set (digs_set hd k _ bc) _ _ bd
  · have h1 : (ds.set k c)[k + 1]? = some c := by rw [List.getElem?_set_ne (by omega)]; exact hck
    rw [tsum_set 0 (ds.set k c) (k + 1) c d h1, tsum_set 0 ds k d c hdk]
    intro h
    have e1 : ((0 : Nat) : Int) + (k : Int) + 1 = (k : Int) + 1 := by omega
    have e2 : ((0 : Nat) : Int) + ((k + 1 : Nat) : Int) + 1 = ((k : Int) + 1) + 1 := by omega
    have e3 : (((k : Int) + 1) + 1) * (d - c) = -(((k : Int) + 1) * (c - d)) + (d - c) := by
      rw [Int.add_mul, Int.one_mul, show d - c = -(c - d) by omega, Int.mul_neg]
    rw [e1, e2, e3] at h
    have : d = c := by omega
    exact hne (by rw [this])
end Go.Proofs.Ytloiclalcepbeaa
