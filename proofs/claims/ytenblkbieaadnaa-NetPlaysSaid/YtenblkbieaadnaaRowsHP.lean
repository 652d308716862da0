/- Rows of rows whose rows are each one's own; a store into a row. -/
import Derived.Test.YtenblkbieaadnaaSepTwo
set_option linter.unusedVariables false
set_option linter.unusedSimpArgs false
namespace Go.Proofs.Ytenblkbieaadnaa
open Go.RowKit Go.Proofs.YtenblkbieaadnaaW.PrintWords

/-- A slice's head. -/
abbrev Hdr := Option Addr × Nat × Nat
def hdrEnc (s : Hdr) : Value := .slice s.1 s.2.1 s.2.2
abbrev KHdr : Kd Hdr := Kd.scalar hdrEnc (fun _ => rfl)
/-- What is never so. -/
def HP.no : HP := fun _ => False
def rowsHP {α : Type} (d : Kd α) (e : Nat) : List Hdr → List (List α) → HP
  | [], [] => HP.emp
  | s :: ss, x :: xs => row d e (hdrEnc s) x * rowsHP d e ss xs
  | _, _ => HP.no
section
variable {α : Type} {d : Kd α} {e : Nat}
theorem HP.false_mul (P : HP) : HP.no * P = HP.no := by
  apply HP.ext
  intro x
  constructor
  · rintro ⟨_, _, _, _, h, _⟩; exact h
  · exact fun h => False.elim h
theorem rows_snoc : ∀ (ss : List Hdr) (xs : List (List α)) (s : Hdr) (x : List α), ss.length = xs.length → rowsHP d e (ss ++ [s]) (xs ++ [x]) = rowsHP d e ss xs * row d e (hdrEnc s) x
  | [], [], s, x, _ => by
    show row d e (hdrEnc s) x * HP.emp = HP.emp * row d e (hdrEnc s) x
    exact HP.comm _ _
  | s' :: ss, x' :: xs, s, x, h => by
    show row d e (hdrEnc s') x' * rowsHP d e (ss ++ [s]) (xs ++ [x]) = row d e (hdrEnc s') x' * rowsHP d e ss xs * row d e (hdrEnc s) x
    rw [rows_snoc ss xs s x (by simpa using h), HP.assoc]
  | [], _ :: _, _, _, h => by simp at h
  | _ :: _, [], _, _, h => by simp at h
/-- One row is taken out, and may be turned. -/
theorem rows_focus : ∀ (ss : List Hdr) (xs : List (List α)) (i : Nat) (s : Hdr) (x : List α), ss[i]? = some s → xs[i]? = some x → ∃ R : HP, rowsHP d e ss xs = row d e (hdrEnc s) x * R ∧ ∀ y, rowsHP d e ss (xs.set i y) = row d e (hdrEnc s) y * R
  | [], _, i, s, x, h, _ => by simp at h
  | _ :: _, [], i, s, x, _, h => by simp at h
  | s' :: ss, x' :: xs, 0, s, x, hs, hx => by
    obtain rfl : s' = s := by simpa using hs
    obtain rfl : x' = x := by simpa using hx
    exact ⟨rowsHP d e ss xs, rfl, fun y => rfl⟩
  | s' :: ss, x' :: xs, i + 1, s, x, hs, hx => by
    obtain ⟨R, h1, h2⟩ := rows_focus ss xs i s x (by simpa using hs) (by simpa using hx)
    refine ⟨row d e (hdrEnc s') x' * R, ?_, fun y => ?_⟩
    · show row d e (hdrEnc s') x' * rowsHP d e ss xs = _
      rw [h1]; ac_rfl
    · show row d e (hdrEnc s') x' * rowsHP d e ss (xs.set i y) = _
      rw [h2 y]; ac_rfl
variable {w0 w : World} {F : HP}
theorem Hw.not_false (h : Hw w0 w (HP.no * F)) : False := by
  rw [HP.false_mul] at h
  obtain ⟨_, _, h, _⟩ := h
  exact h
theorem rows_len : ∀ (ss : List Hdr) (xs : List (List α)) {F : HP}, Hw w0 w (rowsHP d e ss xs * F) → ss.length = xs.length
  | [], [], _, _ => rfl
  | s :: ss, x :: xs, F, h => by
    have := rows_len ss xs (h.as (Q := rowsHP d e ss xs * (row d e (hdrEnc s) x * F)) (by show row d e (hdrEnc s) x * rowsHP d e ss xs * F = _; ac_rfl))
    simp [this]
  | [], _ :: _, _, h => (Hw.not_false h).elim
  | _ :: _, [], _, h => (Hw.not_false h).elim
theorem rows_C {e2 : Nat} {v : Value} {ss : List Hdr} {xs : List (List α)} (h : Hw w0 w (row KHdr e2 v ss * (rowsHP d e ss xs * F))) :
    ∃ A c, v = .slice A xs.length c ∧ xs.length ≤ c ∧ (Kd.slice e d).C w A xs.length xs := by
  have hl := rows_len ss xs (h.as (Q := rowsHP d e ss xs * (row KHdr e2 v ss * F)) (by ac_rfl))
  obtain ⟨A, c, rfl, hc, hC⟩ := h.row_reads
  rw [hl] at hc hC ⊢
  refine ⟨A, c, rfl, hc, rfl, hC.2.1, fun hn => ?_⟩
  obtain ⟨ad, e1, hcell⟩ := hC.2.2 hn
  refine ⟨ad, e1, fun j p hj => ?_⟩
  have hjl := (List.getElem?_eq_some_iff.1 hj).1
  obtain ⟨s, hs⟩ : ∃ s, ss[j]? = some s := ⟨_, List.getElem?_eq_getElem (by omega)⟩
  obtain ⟨cc, hcl, hK, hcc⟩ := hcell j _ hs
  have hK : cc = [hdrEnc s] := hK
  subst hK
  obtain ⟨R, hR, _⟩ := rows_focus (d := d) (e := e) ss xs j _ p hs hj
  have h2 := (h.as (Q := row d e (hdrEnc s) p * (R * (row KHdr e2 (.slice A ss.length c) ss * F))) (by rw [hR]; ac_rfl)).row_reads
  obtain ⟨A', c', e2, hl', hC'⟩ := h2
  refine ⟨[hdrEnc s], rfl, ⟨A', c', by rw [e2], hl', hC'⟩, ?_⟩
  intro i u hu
  exact hcc i u hu
end

theorem Hw.right_alloc {w0 w : World} {P Q : HP} (h : Hw w0 w (P * Q)) (o : Obj) : Hw w0 (w.alloc o) (P * (blk w.heap.size o * Q)) := (h.alloc o).as (by ac_rfl)
/-- A store into a row of scalars. -/
theorem Hw.row_put {α : Type} {enc : α → Value} {h1 : ∀ x, (enc x).oneCell' = true} {w0 w : World} {F : HP} {e g c : Nat} {xs : List α} (h : Hw w0 w (row (Kd.scalar enc h1) e (.slice (some ⟨g, 0, none⟩) xs.length c) xs * F)) (i : Nat) (x : α) :
    Hw w0 (w.setCell ⟨g, i, none⟩ (enc x)) (row (Kd.scalar enc h1) e (.slice (some ⟨g, 0, none⟩) xs.length c) (xs.set i x) * F) := by
  obtain ⟨ok, hR, hf, hK⟩ := h.row_open
  obtain ⟨h2, h3⟩ := Kd.R_put hR (i : Int) x
  simp only [Int.toNat_natCast] at h2 h3
  exact hK _ _ _ _ _ (by simpa [Value.ownBlock] using h3) h2
theorem Hw.row_cell {α : Type} {enc : α → Value} {h1 : ∀ x, (enc x).oneCell' = true} {w0 w : World} {F : HP} {e g c : Nat} {xs : List α} (h : Hw w0 w (row (Kd.scalar enc h1) e (.slice (some ⟨g, 0, none⟩) xs.length c) xs * F)) (i : Nat) (x : α) (hx : xs[i]? = some x) :
    w.cell? ⟨g, i, none⟩ = some (enc x) ∧ w.frozen? ⟨g, i, none⟩ = false := by
  obtain ⟨ok, hR⟩ := h.row_R
  have hl := (List.getElem?_eq_some_iff.1 hx).1
  have := Kd.R_cell x hR (i : Int) (by omega) (by omega)
  simp only [Int.toNat_natCast] at this
  obtain ⟨h2, h3⟩ := this
  refine ⟨?_, h3⟩
  rw [h2]
  simp [rdOf, List.getD_eq_getElem?_getD, hx]
theorem Hw.row_form {α : Type} {d : Kd α} {w0 w : World} {F : HP} {e : Nat} {v : Value} {xs : List α} (h : Hw w0 w (row d e v xs * F)) (hp : 0 < xs.length) : ∃ g c, v = .slice (some ⟨g, 0, none⟩) xs.length c := by
  obtain ⟨ok, hR⟩ := h.row_R
  obtain ⟨g, c, hv, _⟩ := Kd.R_form hR hp
  exact ⟨g, c, hv⟩
/-- One row of a row of rows, read and written. -/
theorem rows_at {α : Type} {d : Kd α} {e e2 : Nat} {w0 w : World} {F : HP} {A : Option Addr} {n c : Nat} {ss : List Hdr} {xs : List (List α)} (h : Hw w0 w (row KHdr e2 (.slice A n c) ss * (rowsHP d e ss xs * F))) (k m : Nat) (x : List α) (hx : xs[k]? = some x) (hm : x.length = m) :
    ∃ ad B cc R, A = some ad ∧ k < n ∧ w.cell? (ad.add k) = some (.slice B m cc) ∧ m ≤ cc ∧ Aside0 (d.C w B m x) ∧ Aside0 (Hw w0 w (row d e (.slice B m cc) x * R)) ∧
      Aside0 (∀ y W, Hw w0 W (row d e (.slice B m cc) y * R) → Hw w0 W (row KHdr e2 (.slice A n c) ss * (rowsHP d e ss (xs.set k y) * F))) := by
  subst hm
  have hl := rows_len ss xs (h.as (Q := rowsHP d e ss xs * (row KHdr e2 (.slice A n c) ss * F)) (by ac_rfl))
  have hk := (List.getElem?_eq_some_iff.1 hx).1
  obtain ⟨s, hs⟩ : ∃ s, ss[k]? = some s := ⟨_, List.getElem?_eq_getElem (by omega)⟩
  obtain ⟨g, c', e1⟩ := h.row_form (by omega)
  injection e1 with e1 e2' e3
  subst e1 e2' e3
  obtain ⟨hc, hf⟩ := Hw.row_cell h k s hs
  obtain ⟨R, hR, hR2⟩ := rows_focus (d := d) (e := e) ss xs k s x hs hx
  have h2 := (h.as (Q := row d e (hdrEnc s) x * (R * (row KHdr e2 (.slice (some ⟨g, 0, none⟩) ss.length c) ss * F))) (by rw [hR]; ac_rfl))
  obtain ⟨B, cc, e4, hcc, hC⟩ := h2.row_reads
  refine ⟨⟨g, 0, none⟩, B, cc, R * (row KHdr e2 (.slice (some ⟨g, 0, none⟩) ss.length c) ss * F), rfl, by omega, ?_, hcc, ⟨hC⟩, ⟨?_⟩, ⟨fun y W hW => ?_⟩⟩
  · rw [add_plain, hc, e4]
  · rw [← e4]; exact h2
  · rw [← e4] at hW
    exact hW.as (by rw [hR2 y]; ac_rfl)
/-- A number of a row of numbers, read and written. -/
theorem row_at {α : Type} {enc : α → Value} {h1 : ∀ x, (enc x).oneCell' = true} {w0 w : World} {F : HP} {e c m : Nat} {A : Option Addr} {xs : List α} (h : Hw w0 w (row (Kd.scalar enc h1) e (.slice A m c) xs * F)) (k : Nat) (x : α) (hx : xs[k]? = some x) :
    ∃ ad, A = some ad ∧ w.cell? (ad.add k) = some (enc x) ∧ w.frozen? (ad.add k) = false ∧ Aside0 (∀ y, Hw w0 (w.setCell (ad.add k) (enc y)) (row (Kd.scalar enc h1) e (.slice A m c) (xs.set k y) * F)) := by
  have hk := (List.getElem?_eq_some_iff.1 hx).1
  obtain ⟨g, c', e1⟩ := h.row_form (by omega)
  injection e1 with e1 e2' e3
  subst e1 e2' e3
  obtain ⟨hc, hf⟩ := Hw.row_cell h k x hx
  refine ⟨⟨g, 0, none⟩, rfl, ?_, ?_, ⟨fun y => ?_⟩⟩
  · rw [add_plain]; exact hc
  · rw [add_plain]; exact hf
  · rw [add_plain]; exact h.row_put k y
/-- An element of a row of scalars that is read. -/
theorem C_scalar_at {α : Type} {enc : α → Value} {h1 : ∀ x, (enc x).oneCell' = true} {w : World} {A : Option Addr} {n : Nat} {xs : List α} (h : (Kd.scalar enc h1).C w A n xs) (i : Nat) (hi : i < n) :
    ∃ ad x, A = some ad ∧ w.cell? (ad.add i) = some (enc x) ∧ Aside0 (xs[i]? = some x) := by
  obtain ⟨ad, e, hc⟩ := h.2.2 (by omega)
  have hl : i < xs.length := by have := h.1; omega
  obtain ⟨c, hs, hK, hcell⟩ := hc i _ (List.getElem?_eq_getElem hl)
  have hK : c = [enc xs[i]] := hK
  subst hK
  refine ⟨ad, xs[i], e, ?_, ⟨List.getElem?_eq_getElem hl⟩⟩
  have := hcell 0 _ rfl
  simpa [Kd.scalar] using this
/-- One row is taken out. -/
theorem rows_erase {α : Type} {d : Kd α} {e : Nat} : ∀ (ss : List Hdr) (xs : List (List α)) (i : Nat) (s : Hdr) (x : List α), ss[i]? = some s → xs[i]? = some x → rowsHP d e ss xs = row d e (hdrEnc s) x * rowsHP d e (ss.eraseIdx i) (xs.eraseIdx i)
  | [], _, i, s, x, h, _ => by simp at h
  | _ :: _, [], i, s, x, _, h => by simp at h
  | s' :: ss, x' :: xs, 0, s, x, hs, hx => by
    obtain rfl : s' = s := by simpa using hs
    obtain rfl : x' = x := by simpa using hx
    rfl
  | s' :: ss, x' :: xs, i + 1, s, x, hs, hx => by
    show row d e (hdrEnc s') x' * rowsHP d e ss xs = row d e (hdrEnc s) x * (row d e (hdrEnc s') x' * rowsHP d e (ss.eraseIdx i) (xs.eraseIdx i))
    rw [rows_erase ss xs i s x (by simpa using hs) (by simpa using hx)]
    ac_rfl
end Go.Proofs.Ytenblkbieaadnaa
