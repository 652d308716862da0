/- The kinds of messages as arguments. -/
import Derived.Test.YtloiclalcepbeaaKindsCode
import Derived.Test.YtloiclalcepbeaaCodeE
set_option linter.unusedVariables false
set_option linter.unusedSimpArgs false
namespace Go.Proofs.Ytloiclalcepbeaa
open Go.RowKit Go.Proofs.YtloiclalcepbeaaW.PrintWords
def cS (n : Int) : Prop := (Lit.int .i64 n).wf = true
def cT (s : ByteArray) : Prop := s.size ≤ 140737488351232
def cTS (t : Tup) : Prop := cT t.1 ∧ cT t.2.1 ∧ cT t.2.2
def mT (s : ByteArray) : Nat := s.size + 1
def mTup (t : Tup) : Nat := mT t.1 + (mT t.2.1 + mT t.2.2) + 1
def mMut (x : Mut) : Nat := 1 + mTup x.2 + 1
def mRw (r : Rw) : Nat := mTup r.1 + (1 + 1) + 1
theorem copens_int : Opens Try.prog 3 (Kd.int .i64) cS (fun _ => 1) := opens_int Try.underlying3 (by kernel_rfl)
theorem copens_i64 : Opens Try.prog 2 (Kd.int .i64) cS (fun _ => 1) := opens_int Try.underlying2 (by kernel_rfl)
theorem copens_bool : Opens Try.prog 4 Kd.bool (fun _ => True) (fun _ => 1) := opens_bool Try.underlying4 (by kernel_rfl)
theorem copens_text : Opens Try.prog 9 Kd.string cT mT := opens_string Try.underlying9 (by kernel_rfl)
theorem copens_tup : Opens Try.prog 81 KTup cTS mTup :=
  opens_struct (n := 3) (mu := fun t : Tup => mT t.1 + (mT t.2.1 + mT t.2.2)) Try.underlying81 (by kernel_rfl)
    (opensF_cons (S := cT) (mu := mT) (n := 1) (m := 2) (S' := fun y : ByteArray × ByteArray => cT y.1 ∧ cT y.2) (mu' := fun y => mT y.1 + mT y.2) rfl (by kernel_rfl) copens_text
      (opensF_cons (S := cT) (S' := cT) (mu := mT) (mu' := mT) (n := 1) (m := 1) rfl (by kernel_rfl) copens_text (opensF_one (n := 1) rfl (by kernel_rfl) copens_text)))
theorem copens_mut : Opens Try.prog 83 KMut (fun x => True ∧ cTS x.2) mMut :=
  opens_struct (n := 4) (mu := fun x : Mut => 1 + mTup x.2) Try.underlying83 (by kernel_rfl)
    (opensF_cons (S := fun _ => True) (S' := cTS) (mu := fun _ => 1) (mu' := mTup) (n := 1) (m := 3) rfl (by kernel_rfl) copens_bool (opensF_one (n := 3) rfl (by kernel_rfl) copens_tup))
theorem copens_cond : Opens Try.prog 91 KMut (fun x => True ∧ cTS x.2) mMut :=
  opens_struct (n := 4) (mu := fun x : Mut => 1 + mTup x.2) Try.underlying91 (by kernel_rfl)
    (opensF_cons (S := fun _ => True) (S' := cTS) (mu := fun _ => 1) (mu' := mTup) (n := 1) (m := 3) rfl (by kernel_rfl) copens_bool (opensF_one (n := 3) rfl (by kernel_rfl) copens_tup))
theorem copens_row : Opens Try.prog 93 KRow (fun r => cTS r.1 ∧ cS r.2.1 ∧ cS r.2.2) mRw :=
  opens_struct (n := 5) (mu := fun r : Rw => mTup r.1 + (1 + 1)) Try.underlying93 (by kernel_rfl)
    (opensF_cons (S := cTS) (mu := mTup) (n := 3) (m := 2) (S' := fun y : Int × Int => cS y.1 ∧ cS y.2) (mu' := fun y => 1 + 1) rfl (by kernel_rfl) copens_tup
      (opensF_cons (S := cS) (S' := cS) (mu := fun _ => 1) (mu' := fun _ => 1) (n := 1) (m := 1) rfl (by kernel_rfl) copens_i64 (opensF_one (n := 1) rfl (by kernel_rfl) copens_i64)))
def sL1 (l : List Int) : Prop := l.length * 8 ≤ 140737488351232 ∧ ∀ x ∈ l, cS x
def sL2 (l : List Mut) : Prop := l.length * 56 ≤ 140737488351232 ∧ ∀ x ∈ l, True ∧ cTS x.2
def sL4 (l : List Rw) : Prop := l.length * 64 ≤ 140737488351232 ∧ ∀ r ∈ l, cTS r.1 ∧ cS r.2.1 ∧ cS r.2.2
def mL1 (l : List Int) : Nat := (l.map fun _ => 1).sum + 1
def mL2 (l : List Mut) : Nat := (l.map mMut).sum + 1
def mL4 (l : List Rw) : Nat := (l.map mRw).sum + 1
theorem copens_l1 : Opens Try.prog 48 (Kd.slice 3 (Kd.int .i64)) sL1 mL1 := opens_slice Try.underlying48 (by kernel_rfl) (by kernel_rfl) copens_int
theorem copens_l2 : Opens Try.prog 49 (Kd.slice 83 KMut) sL2 mL2 := opens_slice Try.underlying49 (by kernel_rfl) (by kernel_rfl) copens_mut
theorem copens_l3 : Opens Try.prog 50 (Kd.slice 91 KMut) sL2 mL2 := opens_slice Try.underlying50 (by kernel_rfl) (by kernel_rfl) copens_cond
theorem copens_l4 : Opens Try.prog 51 (Kd.slice 93 KRow) sL4 mL4 := opens_slice Try.underlying51 (by kernel_rfl) (by kernel_rfl) copens_row
abbrev KInt := Kd.int .i64
abbrev KLists := Kd.pair (Kd.slice 3 KInt) (Kd.pair (Kd.slice 83 KMut) (Kd.pair (Kd.slice 91 KMut) (Kd.slice 93 KRow)))
abbrev KMsg := Kd.pair KInt (Kd.pair KInt (Kd.pair KInt (Kd.pair KInt (Kd.pair KInt (Kd.pair KInt (Kd.pair KInt (Kd.pair Kd.bool KLists)))))))
abbrev MsgT := Int × Int × Int × Int × Int × Int × Int × Bool × List Int × List Mut × List Mut × List Rw
abbrev TM11 := List Rw
def sM11 (y : TM11) : Prop := sL4 y
def mM11 (y : TM11) : Nat := mL4 y
abbrev TM10 := (List Mut) × TM11
def sM10 (y : TM10) : Prop := sL2 y.1 ∧ sM11 y.2
def mM10 (y : TM10) : Nat := mL2 y.1 + mM11 y.2
abbrev TM9 := (List Mut) × TM10
def sM9 (y : TM9) : Prop := sL2 y.1 ∧ sM10 y.2
def mM9 (y : TM9) : Nat := mL2 y.1 + mM10 y.2
abbrev TM8 := (List Int) × TM9
def sM8 (y : TM8) : Prop := sL1 y.1 ∧ sM9 y.2
def mM8 (y : TM8) : Nat := mL1 y.1 + mM9 y.2
abbrev TM7 := Bool × TM8
def sM7 (y : TM7) : Prop := True ∧ sM8 y.2
def mM7 (y : TM7) : Nat := 1 + mM8 y.2
abbrev TM6 := Int × TM7
def sM6 (y : TM6) : Prop := cS y.1 ∧ sM7 y.2
def mM6 (y : TM6) : Nat := 1 + mM7 y.2
abbrev TM5 := Int × TM6
def sM5 (y : TM5) : Prop := cS y.1 ∧ sM6 y.2
def mM5 (y : TM5) : Nat := 1 + mM6 y.2
abbrev TM4 := Int × TM5
def sM4 (y : TM4) : Prop := cS y.1 ∧ sM5 y.2
def mM4 (y : TM4) : Nat := 1 + mM5 y.2
abbrev TM3 := Int × TM4
def sM3 (y : TM3) : Prop := cS y.1 ∧ sM4 y.2
def mM3 (y : TM3) : Nat := 1 + mM4 y.2
abbrev TM2 := Int × TM3
def sM2 (y : TM2) : Prop := cS y.1 ∧ sM3 y.2
def mM2 (y : TM2) : Nat := 1 + mM3 y.2
abbrev TM1 := Int × TM2
def sM1 (y : TM1) : Prop := cS y.1 ∧ sM2 y.2
def mM1 (y : TM1) : Nat := 1 + mM2 y.2
abbrev TM0 := Int × TM1
def sM0 (y : TM0) : Prop := cS y.1 ∧ sM1 y.2
def mM0 (y : TM0) : Nat := 1 + mM1 y.2
theorem copens_msg : Opens Try.prog 53 KMsg sM0 (fun y => mM0 y + 1) :=
  opens_struct (n := 12) (mu := mM0) Try.underlying53 (by kernel_rfl)
    (opensF_cons (S := cS) (S' := sM1) (mu := (fun _ => 1)) (mu' := mM1) (n := 1) (m := 11) rfl (by kernel_rfl) copens_int
      (opensF_cons (S := cS) (S' := sM2) (mu := (fun _ => 1)) (mu' := mM2) (n := 1) (m := 10) rfl (by kernel_rfl) copens_int
      (opensF_cons (S := cS) (S' := sM3) (mu := (fun _ => 1)) (mu' := mM3) (n := 1) (m := 9) rfl (by kernel_rfl) copens_int
      (opensF_cons (S := cS) (S' := sM4) (mu := (fun _ => 1)) (mu' := mM4) (n := 1) (m := 8) rfl (by kernel_rfl) copens_i64
      (opensF_cons (S := cS) (S' := sM5) (mu := (fun _ => 1)) (mu' := mM5) (n := 1) (m := 7) rfl (by kernel_rfl) copens_i64
      (opensF_cons (S := cS) (S' := sM6) (mu := (fun _ => 1)) (mu' := mM6) (n := 1) (m := 6) rfl (by kernel_rfl) copens_i64
      (opensF_cons (S := cS) (S' := sM7) (mu := (fun _ => 1)) (mu' := mM7) (n := 1) (m := 5) rfl (by kernel_rfl) copens_int
      (opensF_cons (S := (fun _ => True)) (S' := sM8) (mu := (fun _ => 1)) (mu' := mM8) (n := 1) (m := 4) rfl (by kernel_rfl) copens_bool
      (opensF_cons (S := sL1) (S' := sM9) (mu := mL1) (mu' := mM9) (n := 1) (m := 3) rfl (by kernel_rfl) copens_l1
      (opensF_cons (S := sL2) (S' := sM10) (mu := mL2) (mu' := mM10) (n := 1) (m := 2) rfl (by kernel_rfl) copens_l2
      (opensF_cons (S := sL2) (S' := sM11) (mu := mL2) (mu' := mM11) (n := 1) (m := 1) rfl (by kernel_rfl) copens_l3
      (opensF_one (S := sM11) (mu := mM11) (n := 1) rfl (by kernel_rfl) copens_l4))))))))))))
/-- A message out of its fields. -/
def msgOf (y : TM0) : Msg := ⟨y.1, y.2.1, y.2.2.1, y.2.2.2.1, y.2.2.2.2.1, y.2.2.2.2.2.1, y.2.2.2.2.2.2.1, y.2.2.2.2.2.2.2.1, y.2.2.2.2.2.2.2.2.1, y.2.2.2.2.2.2.2.2.2.1, y.2.2.2.2.2.2.2.2.2.2.1, y.2.2.2.2.2.2.2.2.2.2.2⟩
theorem i64r_cS {x : Int} (h : cS x) : i64r x := by
  have h2 : (Lit.int .i64 x).wf = true := h
  simp only [Lit.wf, Bool.and_eq_true, decide_eq_true_eq] at h2
  exact h2
/-- How large a message's lists are. -/
structure MsgLe (m : Msg) (s1 s2 s3 s4 : Hdr) : Prop where
  e1 : s1.2.1 = m.nodes.length ∧ s1.2.1 ≤ s1.2.2 ∧ m.nodes.length * 8 ≤ 140737488351232
  e2 : s2.2.1 = m.muts.length ∧ s2.2.1 ≤ s2.2.2 ∧ m.muts.length * 56 ≤ 140737488351232
  e3 : s3.2.1 = m.pre.length ∧ s3.2.1 ≤ s3.2.2 ∧ m.pre.length * 56 ≤ 140737488351232
  e4 : s4.2.1 = m.rows.length ∧ s4.2.1 ≤ s4.2.2 ∧ m.rows.length * 64 ≤ 140737488351232
theorem msg_open {w : World} {y : TM0} {cs : Array Value} (hK : KMsg.K w y cs.toList) (hS : sM0 y) : ∃ s1 s2 s3 s4 : Hdr, .agg cs = msgV (msgOf y) s1 s2 s3 s4 ∧ MsgC w (msgOf y) s1 s2 s3 s4 ∧ MsgOk (msgOf y) ∧ MsgLe (msgOf y) s1 s2 s3 s4 := by
  obtain ⟨a0, a1, a2, a3, a4, a5, a6, f, l1, l2, l3, l4⟩ := y
  obtain ⟨_, _, hc, rfl, _, _, rfl, rfl, _, _, rfl, rfl, _, _, rfl, rfl, _, _, rfl, rfl, _, _, rfl, rfl, _, _, rfl, rfl, _, _, rfl, rfl, _, _, rfl, ⟨A1, c1, rfl, g1, C1⟩, _, _, rfl, ⟨A2, c2, rfl, g2, C2⟩, _, _, rfl, ⟨A3, c3, rfl, g3, C3⟩, ⟨A4, c4, rfl, g4, C4⟩⟩ := hK
  obtain ⟨h0, h1, h2, h3, h4, h5, h6, _, ⟨b1, r1⟩, ⟨b2, _⟩, ⟨b3, _⟩, b4, r4⟩ := hS
  refine ⟨(A1, l1.length, c1), (A2, l2.length, c2), (A3, l3.length, c3), (A4, l4.length, c4), ?_, ⟨C1, C2, C3, C4⟩, ⟨?_, fun n hn => i64r_cS (r1 n hn), fun r hr => ⟨i64r_cS (r4 r hr).2.1, i64r_cS (r4 r hr).2.2⟩⟩, ⟨⟨rfl, g1, b1⟩, ⟨rfl, g2, b2⟩, ⟨rfl, g3, b3⟩, ⟨rfl, g4, b4⟩⟩⟩
  · obtain ⟨cs⟩ := cs
    simp only at hc
    subst hc
    rfl
  · intro n hn
    simp only [Msg.ints, msgOf, List.mem_cons, List.not_mem_nil, or_false] at hn
    rcases hn with rfl | rfl | rfl | rfl | rfl | rfl | rfl
    all_goals exact i64r_cS (by assumption)
end Go.Proofs.Ytloiclalcepbeaa
