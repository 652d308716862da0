/- The kinds of NetPlays' script: a call's kind, which packet, which bit, a packet. -/
import Derived.Test.YtenblkbieaadnaaArgs
import Derived.Test.YtenblkbieaadnaaRowsHP
set_option linter.unusedVariables false
namespace Go.Proofs.Ytenblkbieaadnaa
open Go.RowKit Go.Proofs.YtenblkbieaadnaaW.PrintWords
abbrev TPk := Int × Int × List Int
abbrev TN := Int × Int × Int × TPk
abbrev KPk := Kd.pair (Kd.int .i64) (Kd.pair (Kd.int .i64) (Kd.slice 5 (Kd.int .u8)))
abbrev KOpN := Kd.pair (Kd.int .i64) (Kd.pair (Kd.int .i64) (Kd.pair (Kd.int .i64) KPk))
def snI (n : Int) : Prop := (Lit.int .i64 n).wf = true
def snS (xs : List Int) : Prop := xs.length * 1 ≤ 140737488351232 ∧ ∀ x ∈ xs, (Lit.int .u8 x).wf = true
def mnS (xs : List Int) : Nat := (xs.map fun _ => 1).sum + 1
def snP1 (y : Int × List Int) : Prop := snI y.1 ∧ snS y.2
def mnP1 (y : Int × List Int) : Nat := 1 + mnS y.2
def snP0 (y : TPk) : Prop := snI y.1 ∧ snP1 y.2
def mnP0 (y : TPk) : Nat := 1 + mnP1 y.2
def snO2 (y : Int × TPk) : Prop := snI y.1 ∧ snP0 y.2
def mnO2 (y : Int × TPk) : Nat := 1 + (mnP0 y.2 + 1)
def snO1 (y : Int × Int × TPk) : Prop := snI y.1 ∧ snO2 y.2
def mnO1 (y : Int × Int × TPk) : Nat := 1 + mnO2 y.2
def snO0 (y : TN) : Prop := snI y.1 ∧ snO1 y.2
def mnO0 (y : TN) : Nat := 1 + mnO1 y.2
theorem npopens_bytes : Opens Try.prog 56 (Kd.slice 5 (Kd.int .u8)) snS mnS := opens_slice Try.underlying56 (by kernel_rfl) (by kernel_rfl) (opens_int Try.underlying5 (by kernel_rfl))
theorem npopens_pk : Opens Try.prog 58 KPk snP0 (fun y => mnP0 y + 1) :=
  opens_struct (n := 3) (mu := mnP0) Try.underlying58 (by kernel_rfl)
    (opensF_cons (S := snI) (S' := snP1) (mu := fun _ => 1) (mu' := mnP1) (n := 1) (m := 2) rfl (by kernel_rfl) (opens_int Try.underlying3 (by kernel_rfl))
      (opensF_cons (S := snI) (S' := snS) (mu := fun _ => 1) (mu' := mnS) (n := 1) (m := 1) rfl (by kernel_rfl) (opens_int Try.underlying3 (by kernel_rfl))
        (opensF_one (n := 1) rfl (by kernel_rfl) npopens_bytes)))
theorem npopens_op : Opens Try.prog 60 KOpN snO0 (fun y => mnO0 y + 1) :=
  opens_struct (n := 6) (mu := mnO0) Try.underlying60 (by kernel_rfl)
    (opensF_cons (S := snI) (S' := snO1) (mu := fun _ => 1) (mu' := mnO1) (n := 1) (m := 5) rfl (by kernel_rfl) (opens_int Try.underlying3 (by kernel_rfl))
      (opensF_cons (S := snI) (S' := snO2) (mu := fun _ => 1) (mu' := mnO2) (n := 1) (m := 4) rfl (by kernel_rfl) (opens_int Try.underlying3 (by kernel_rfl))
        (opensF_cons (S := snI) (S' := snP0) (mu := fun _ => 1) (mu' := fun y => mnP0 y + 1) (n := 1) (m := 3) rfl (by kernel_rfl) (opens_int Try.underlying3 (by kernel_rfl))
          (opensF_one (n := 3) rfl (by kernel_rfl) npopens_pk))))
theorem npopens_ops : Opens Try.prog 51 (Kd.slice 60 KOpN) (fun l => l.length * 64 ≤ 140737488351232 ∧ ∀ y ∈ l, snO0 y) (fun l => (l.map (fun y => mnO0 y + 1)).sum + 1) := opens_slice Try.underlying51 (by kernel_rfl) (by kernel_rfl) npopens_op
structure OpN where
  kind : Int
  i : Int
  bit : Int
  f : Int
  t : Int
  B : Option Addr
  m : Nat
  d : Nat
  ys : List Int
abbrev opN (o : OpN) : List Value := [.int .i64 o.kind, .int .i64 o.i, .int .i64 o.bit, .int .i64 o.f, .int .i64 o.t, .slice o.B o.m o.d]
theorem opn_at {w : World} {A : Option Addr} {n : Nat} {ys : List TN} (h : KOpN.C w A n ys) (hs : ∀ y ∈ ys, snO0 y) (k : Nat) (hk : k < n) :
    ∃ ad o, A = some ad ∧ Aside0 ((Kd.int .u8).C w o.B o.m o.ys ∧ o.m = o.ys.length ∧ o.m ≤ o.d ∧ snI o.i ∧ snI o.bit ∧ snI o.f ∧ snI o.t ∧ snS o.ys) ∧ (∀ i u, (opN o)[i]? = some u → w.cell? (ad.add (k * 6 + i)) = some u) := by
  obtain ⟨ad, e, hc⟩ := h.2.2 (by omega)
  have hl : k < ys.length := by have := h.1; omega
  obtain ⟨y, hy⟩ : ∃ y, ys[k]? = some y := ⟨_, List.getElem?_eq_getElem hl⟩
  have hsy := hs y (List.mem_of_getElem? hy)
  obtain ⟨cs, hs', hK, hcell⟩ := hc k y hy
  obtain ⟨ki, ii, bi, ff, tt, xs⟩ := y
  obtain ⟨c0, c1, rfl, g0, c2, c3, rfl, g2, c4, c5, rfl, g4, c6, c7, rfl, g6, c8, c9, rfl, g8, g9⟩ := hK
  have g0 : c0 = [.int .i64 ki] := g0
  have g2 : c2 = [.int .i64 ii] := g2
  have g4 : c4 = [.int .i64 bi] := g4
  have g6 : c6 = [.int .i64 ff] := g6
  have g8 : c8 = [.int .i64 tt] := g8
  obtain ⟨B, cb, g10, hle, hC⟩ := g9
  have g10 : c9 = [.slice B xs.length cb] := g10
  subst g0 g2 g4 g6 g8 g10
  obtain ⟨z0, z1, z2, z3, z4, z5⟩ := hsy
  exact ⟨ad, ⟨ki, ii, bi, ff, tt, B, xs.length, cb, xs⟩, e, ⟨hC, rfl, hle, z1, z2, z3, z4, z5⟩, fun i u hu => hcell i u hu⟩
end Go.Proofs.Ytenblkbieaadnaa
