/- Tokens, plain: what Parse answers. -/
import Derived.Test.YtloiclalcepbeaaTokenN
import Derived.Lib.Bytealg
set_option linter.unusedVariables false
set_option linter.unusedSimpArgs false
namespace Go.Proofs.Ytloiclalcepbeaa
/-- A sign's place, or -1. -/
def plc (x : Int) : Int := match signsL.findIdx? (· == x) with
  | some i => i
  | none => -1
theorem plc_table : ∀ x : Fin 256, Lib.indexByte [48, 49, 50, 51, 52, 53, 54, 55, 56, 57, 97, 98, 99, 100, 101, 102, 103, 104, 106, 107, 109, 110, 112, 113, 114, 115, 116, 117, 118, 119, 120] (x.val).toUInt8 = plc x.val ∧ -1 ≤ plc x.val ∧ plc x.val ≤ 30 ∧ (0 ≤ plc x.val → sgn (plc x.val) = x.val) := by decide +kernel
theorem plc_index (x : Int) (h0 : 0 ≤ x) (h1 : x ≤ 255) : Lib.indexByte [48, 49, 50, 51, 52, 53, 54, 55, 56, 57, 97, 98, 99, 100, 101, 102, 103, 104, 106, 107, 109, 110, 112, 113, 114, 115, 116, 117, 118, 119, 120] x.toNat.toUInt8 = plc x := by
  obtain ⟨n, rfl⟩ : ∃ n : Nat, x = n := ⟨x.toNat, by omega⟩
  have := (plc_table ⟨n, by omega⟩).1
  simpa using this
theorem plc_range (x : Int) (h0 : 0 ≤ x) (h1 : x ≤ 255) : -1 ≤ plc x ∧ plc x ≤ 30 ∧ (0 ≤ plc x → sgn (plc x) = x) := by
  obtain ⟨n, rfl⟩ : ∃ n : Nat, x = n := ⟨x.toNat, by omega⟩
  exact (plc_table ⟨n, by omega⟩).2
theorem plc_sgn_table : ∀ d : Fin 31, plc (sgn (d.val : Int)) = d.val := by decide +kernel
theorem plc_sgn (d : Int) (h0 : 0 ≤ d) (h1 : d ≤ 30) : plc (sgn d) = d := by
  obtain ⟨n, rfl⟩ : ∃ n : Nat, d = n := ⟨d.toNat, by omega⟩
  exact plc_sgn_table ⟨n, by omega⟩
/-- What digits come to. -/
def rval (ds : List Int) : Int := ds.foldl (fun r d => r * 31 + d) 0
theorem rval_snoc (ds : List Int) (d : Int) : rval (ds ++ [d]) = rval ds * 31 + d := by simp [rval]
theorem rval_nonneg (ds : List Int) (h : digs ds) : 0 ≤ rval ds := by
  unfold rval
  have key : ∀ (l : List Int) (r : Int), digs l → 0 ≤ r → 0 ≤ l.foldl (fun r d => r * 31 + d) r := by
    intro l
    induction l with
    | nil => intro r _ h; exact h
    | cons d l ih =>
      intro r hd h
      have := hd d (by simp)
      exact ih (r * 31 + d) (fun x hx => hd x (by simp [hx])) (by omega)
  exact key ds 0 h (by omega)
theorem rval_mono (ds : List Int) (h : digs ds) (k : Nat) : rval (ds.take k) ≤ rval ds := by
  have key : ∀ (l : List Int) (r : Int), digs l → 0 ≤ r → r ≤ l.foldl (fun r d => r * 31 + d) r := by
    intro l
    induction l with
    | nil => intro r _ h; exact Int.le_refl _
    | cons d l ih =>
      intro r hd h
      have := hd d (by simp)
      have h2 := ih (r * 31 + d) (fun x hx => hd x (by simp [hx])) (by omega)
      simp only [List.foldl_cons]
      omega
  have h1 : rval ds = (ds.drop k).foldl (fun r d => r * 31 + d) (rval (ds.take k)) := by
    unfold rval
    rw [← List.foldl_append, List.take_append_drop]
  rw [h1]
  exact key _ _ (fun x hx => h x (List.mem_of_mem_drop hx)) (rval_nonneg _ (fun x hx => h x (List.mem_of_mem_take hx)))
/-- The middle: the revision's digits. -/
def tmid (ds : List Int) : List Int := (ds.take (ds.length - 1)).drop 1
def tparse2 (ds : List Int) : Int × Int × Int :=
  if ds.length < 2 then (0, 0, 10)
  else if (tcheck (ds.take (ds.length - 1)) : Int) ≠ ds.getD (ds.length - 1) 0 then (0, 0, 11)
  else if 1 < ds.length - 1 ∧ ds.getD 1 0 = 0 then (0, 0, 51)
  else if 1125899906842624 < rval (tmid ds) then (0, 0, 1)
  else if 8 ≤ ds.getD 0 0 then (0, 0, 1)
  else (ds.getD 0 0, rval (tmid ds), 0)
def tparse (xs : List Int) : Int × Int × Int :=
  if 16 < xs.length then (0, 0, 2)
  else if (xs.map plc).any (fun d => decide (d < 0)) = true then (0, 0, 20)
  else tparse2 (xs.map plc)
theorem tparse_long (xs : List Int) (h : 16 < xs.length) : tparse xs = (0, 0, 2) := if_pos h
theorem tparse_byte (xs : List Int) (h : xs.length ≤ 16) (k : Nat) (x : Int) (hk : xs[k]? = some x) (hx : plc x < 0) : tparse xs = (0, 0, 20) := by
  unfold tparse
  rw [if_neg (by omega), if_pos]
  rw [List.any_eq_true]
  exact ⟨plc x, List.mem_map_of_mem (List.mem_of_getElem? hk), by simpa using hx⟩
theorem tparse_rest (xs : List Int) (h : xs.length ≤ 16) (hd : digs (xs.map plc)) : tparse xs = tparse2 (xs.map plc) := by
  unfold tparse
  rw [if_neg (by omega), if_neg]
  rw [List.any_eq_true]
  rintro ⟨d, hd1, hd2⟩
  have := (hd d hd1).1
  simp at hd2
  omega
theorem tparse2_eq (ds : List Int) (n : Nat) (x z : Int) (hl : ds.length = n + 1) (hn : 1 ≤ n) (hx : ds[0]? = some x) (hz : ds[n]? = some z) :
    tparse2 ds = if (tcheck (ds.take n) : Int) ≠ z then (0, 0, 11)
      else if 1 < n ∧ ds.getD 1 0 = 0 then (0, 0, 51)
      else if 1125899906842624 < rval ((ds.take n).drop 1) then (0, 0, 1)
      else if 8 ≤ x then (0, 0, 1)
      else (x, rval ((ds.take n).drop 1), 0) := by
  have e1 : ds.length - 1 = n := by omega
  have e2 : ds.getD n 0 = z := by rw [List.getD_eq_getElem?_getD, hz]; rfl
  have e3 : ds.getD 0 0 = x := by rw [List.getD_eq_getElem?_getD, hx]; rfl
  unfold tparse2 tmid
  rw [if_neg (by omega), e1, e2, e3]
end Go.Proofs.Ytloiclalcepbeaa
