/- append(list, row): a row of one's own goes behind the rows of a list. -/
import Derived.Test.YtehbchggekbkkaaFocus
set_option linter.unusedVariables false
set_option linter.unusedSimpArgs false
namespace Go.Proofs.Ytehbchggekbkkaa
open Go.RowKit Go.Proofs.YtehbchggekbkkaaW.PrintWords
section
variable {P : Program} {ops : Array Oper} {rest : List Oper} {o : Oper} {a : Act} {Q : Exit → Act → World → Prop} {w0 W : World} {F : HP}
theorem Hw.append_rows {α : Type} {d : Kd α} {e2 : Nat} (hgd : o.guard = none) (s x : Operand) (t e : TypeId)
    (ho : o.op = .call { callee := .builtin .append, args := #[s, x], argTypes := #[t, t] })
    (ht : P.underlying t = some (.slice e)) (hinfo : (P.info? e).map (fun i => (i.zero, i.size, i.bytes)) = some (some (.slice none 0 0), 1, 24))
    (A1 : Option Addr) (n1 c1 : Nat) (hs : List Hdr) (xss : List (List α)) (A' : Option Addr) (n' c' : Nat) (y : List α) (hs1 : a.eval s = .slice A1 n1 c1) (hx : a.eval x = .slice (some ⟨W.heap.size, 0, none⟩) 1 1)
    (h : Hw w0 W (row KHdr e (.slice A1 n1 c1) hs * (rowsHP d e2 hs xss * (row d e2 (.slice A' n' c') y * F)))) (hl : n1 ≤ 4611686018427)
    (K : ∀ A2 c2 w1, Aside0 (Hw w0 w1 (row KHdr e (.slice A2 (n1 + 1) c2) (hs ++ [(A', n', c')]) * (rowsHP d e2 (hs ++ [(A', n', c')]) (xss ++ [y]) * F))) → wpList P ops Q rest (a.put o.dst (.slice A2 (n1 + 1) c2)) w1) :
    wpList P ops Q (o :: rest) a (W.alloc (.cells #[.slice A' n' c'] e)) := by
  have hn1 := h.row_C.1
  have hlen := rows_len hs xss (h.as (Q := rowsHP d e2 hs xss * (row KHdr e (.slice A1 n1 c1) hs * (row d e2 (.slice A' n' c') y * F))) (by ac_rfl))
  have h1 := h.alloc (.cells #[.slice A' n' c'] e)
  have hC : KHdr.C (W.alloc (.cells #[.slice A' n' c'] e)) (some ⟨W.heap.size, 0, none⟩) 1 [(A', n', c')] := C_blk (enc := hdrEnc) (h1 := fun _ => rfl) (xs := [(A', n', c')]) (by simp) h1.blk_at.1
  refine Hw.append_row hdrEnc ((none, 0, 0) : Hdr) (h1 := fun _ => rfl) hgd s x t e (.slice none 0 0) 24 ho ht hinfo rfl (by decide) (.slice A1 n1 c1) hs [(A', n', c')] _ 1 1 hs1 hx
    (h1.as (Q := row KHdr e (.slice A1 n1 c1) hs * (blk W.heap.size (.cells #[.slice A' n' c'] e) * (rowsHP d e2 hs xss * (row d e2 (.slice A' n' c') y * F)))) (by ac_rfl)) hC (by omega) (fun A2 n2 c2 w1 hn2 hw => ?_)
  have e1 : n2 = n1 + 1 := by rw [hn2.out, List.length_append, ← hn1]; rfl
  subst e1
  refine K A2 c2 w1 ⟨?_⟩
  rw [rows_snoc hs xss (A', n', c') y hlen]
  exact (hw.as (Q := blk W.heap.size (.cells #[.slice A' n' c'] e) * (row KHdr e (.slice A2 (n1 + 1) c2) (hs ++ [(A', n', c')]) * (rowsHP d e2 hs xss * row d e2 (hdrEnc (A', n', c')) y * F))) (by
    show row KHdr e (.slice A2 (n1 + 1) c2) (hs ++ [(A', n', c')]) * (blk W.heap.size (.cells #[.slice A' n' c'] e) * (rowsHP d e2 hs xss * (row d e2 (hdrEnc (A', n', c')) y * F))) = _
    ac_rfl)).right
/-- append(texts, text). -/
theorem Hw.append_str (hgd : o.guard = none) (s x : Operand) (t e : TypeId)
    (ho : o.op = .call { callee := .builtin .append, args := #[s, x], argTypes := #[t, t] })
    (ht : P.underlying t = some (.slice e)) (hinfo : (P.info? e).map (fun i => (i.zero, i.size, i.bytes)) = some (some (.string ⟨#[]⟩), 1, 16))
    (A1 : Option Addr) (n1 c1 : Nat) (xs : List ByteArray) (y : ByteArray) (hs1 : a.eval s = .slice A1 n1 c1) (hx : a.eval x = .slice (some ⟨W.heap.size, 0, none⟩) 1 1)
    (h : Hw w0 W (row Kd.string e (.slice A1 n1 c1) xs * F)) (hl : n1 ≤ 4611686018427) (zs : List ByteArray) (hz : xs ++ [y] = zs)
    (K : ∀ A2 c2 w1, Aside0 (Hw w0 w1 (row Kd.string e (.slice A2 (n1 + 1) c2) zs * F)) → wpList P ops Q rest (a.put o.dst (.slice A2 (n1 + 1) c2)) w1) :
    wpList P ops Q (o :: rest) a (W.alloc (.cells #[.string y] e)) := by
  have hn1 := h.row_C.1
  have h1 := h.alloc (.cells #[.string y] e)
  have hC : Kd.string.C (W.alloc (.cells #[.string y] e)) (some ⟨W.heap.size, 0, none⟩) 1 [y] := C_blk (enc := Value.string) (h1 := fun _ => rfl) (xs := [y]) (by simp) h1.blk_at.1
  refine Hw.append_row Value.string ByteArray.empty (h1 := fun _ => rfl) hgd s x t e (.string ⟨#[]⟩) 16 ho ht hinfo rfl (by decide) (.slice A1 n1 c1) xs [y] _ 1 1 hs1 hx
    (h1.as (Q := row Kd.string e (.slice A1 n1 c1) xs * (blk W.heap.size (.cells #[.string y] e) * F)) (by ac_rfl)) hC (by omega) (fun A2 n2 c2 w1 hn2 hw => ?_)
  have e1 : n2 = n1 + 1 := by rw [hn2.out, List.length_append, ← hn1]; rfl
  subst e1
  subst hz
  exact K A2 c2 w1 ⟨(hw.as (Q := blk W.heap.size (.cells #[.string y] e) * (row Kd.string e (.slice A2 (n1 + 1) c2) (xs ++ [y]) * F)) (by
    show row Kd.string e (.slice A2 (n1 + 1) c2) (xs ++ [y]) * (blk W.heap.size (.cells #[.string y] e) * F) = _
    ac_rfl)).right⟩
end
/-- A list of rows, each one's own. -/
def rowss {α : Type} (d : Kd α) (e2 e : Nat) (A : Option Addr) (n c : Nat) (xss : List (List α)) : HP := HP.ex fun hs : List Hdr => row KHdr e2 (.slice A n c) hs * rowsHP d e hs xss
section
variable {α : Type} {d : Kd α} {e2 e : Nat} {A : Option Addr} {n c : Nat} {xss : List (List α)} {w0 w : World} {F : HP}
theorem rowss_mk {hs : List Hdr} (h : Hw w0 w (row KHdr e2 (.slice A n c) hs * (rowsHP d e hs xss * F))) : Hw w0 w (rowss d e2 e A n c xss * F) := Hw.ex_mul.2 ⟨hs, h.as (HP.assoc _ _ _).symm⟩
theorem rowss_open (h : Hw w0 w (rowss d e2 e A n c xss * F)) : ∃ hs, Hw w0 w (row KHdr e2 (.slice A n c) hs * (rowsHP d e hs xss * F)) := by
  obtain ⟨hs, h⟩ := Hw.ex_mul.1 h
  exact ⟨hs, h.as (HP.assoc _ _ _)⟩
theorem rowss_C (h : Hw w0 w (rowss d e2 e A n c xss * F)) : n = xss.length ∧ n ≤ c ∧ (Kd.slice e d).C w A n xss := by
  obtain ⟨hs, h⟩ := rowss_open h
  obtain ⟨A', c', e1, h2, h3⟩ := rows_C h
  injection e1 with e1 e2 e3
  subst e1
  subst e3
  rw [e2]
  exact ⟨rfl, h2, h3⟩
theorem Ent.of_rowss {R : HP} (e2 c : Nat) [i : Has (rowss d e2 e A n c xss) F R] : Ent w0 F (fun w => (Kd.slice e d).C w A n xss) := fun w hw => (rowss_C (hw.at (rowss d e2 e A n c xss))).2.2
end
end Go.Proofs.Ytehbchggekbkkaa
