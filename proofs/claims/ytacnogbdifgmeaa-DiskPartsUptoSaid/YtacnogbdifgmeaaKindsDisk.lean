/- The kinds of the arguments of the disk's statements. -/
import Derived.Test.YtacnogbdifgmeaaArgs
set_option linter.unusedVariables false
namespace Go.Proofs.Ytacnogbdifgmeaa
open Go.RowKit Go.Proofs.YtacnogbdifgmeaaW.PrintWords
theorem opens_u8 : Opens Try.prog 5 (Kd.int .u8) (fun n => (Lit.int .u8 n).wf = true) (fun _ => 1) := opens_int Try.underlying5 (by kernel_rfl)
theorem opens_bytes : Opens Try.prog 22 (Kd.slice 5 (Kd.int .u8)) (fun xs => xs.length * 1 ≤ 140737488351232 ∧ ∀ x ∈ xs, (Lit.int .u8 x).wf = true) (fun xs => (xs.map fun _ => 1).sum + 1) := opens_slice Try.underlying22 (by kernel_rfl) (by kernel_rfl) opens_u8
theorem opens_i64 : Opens Try.prog 3 (Kd.int .i64) (fun n => (Lit.int .i64 n).wf = true) (fun _ => 1) := opens_int Try.underlying3 (by kernel_rfl)
theorem opens_ints : Opens Try.prog 40 (Kd.slice 3 (Kd.int .i64)) (fun xs => xs.length * 8 ≤ 140737488351232 ∧ ∀ x ∈ xs, (Lit.int .i64 x).wf = true) (fun xs => (xs.map fun _ => 1).sum + 1) := opens_slice Try.underlying40 (by kernel_rfl) (by kernel_rfl) opens_i64
theorem opens_parts : Opens Try.prog 37 (Kd.slice 22 (Kd.slice 5 (Kd.int .u8))) (fun xs => xs.length * 24 ≤ 140737488351232 ∧ ∀ x ∈ xs, x.length * 1 ≤ 140737488351232 ∧ ∀ y ∈ x, (Lit.int .u8 y).wf = true) (fun xs => (xs.map fun xs => (xs.map fun _ => 1).sum + 1).sum + 1) := opens_slice Try.underlying37 (by kernel_rfl) (by kernel_rfl) opens_bytes
/-- A call of the script as data: its kind, its bytes, its number. -/
abbrev KOp := Kd.pair (Kd.int .i64) (Kd.pair (Kd.slice 5 (Kd.int .u8)) (Kd.int .i64))
def sI (n : Int) : Prop := (Lit.int .i64 n).wf = true
def sB (xs : List Int) : Prop := xs.length * 1 ≤ 140737488351232 ∧ ∀ x ∈ xs, (Lit.int .u8 x).wf = true
def mI (_ : Int) : Nat := 1
def mB (xs : List Int) : Nat := (xs.map fun _ => 1).sum + 1
theorem opens_op : Opens Try.prog 56 KOp (fun y => sI y.1 ∧ (sB y.2.1 ∧ sI y.2.2)) (fun y => (mI y.1 + (mB y.2.1 + mI y.2.2)) + 1) :=
  opens_struct (n := 3) (mu := fun y : Int × List Int × Int => mI y.1 + (mB y.2.1 + mI y.2.2)) Try.underlying56 (by kernel_rfl)
    (opensF_cons (S := sI) (S' := fun y : List Int × Int => sB y.1 ∧ sI y.2) (mu := mI) (mu' := fun y : List Int × Int => mB y.1 + mI y.2) (n := 1) (m := 2) rfl (by kernel_rfl) opens_i64
      (opensF_cons (S := sB) (S' := sI) (mu := mB) (mu' := mI) (n := 1) (m := 1) rfl (by kernel_rfl) opens_bytes (opensF_one (n := 1) rfl (by kernel_rfl) opens_i64)))
theorem opens_ops : Opens Try.prog 52 (Kd.slice 56 KOp) (fun xs => xs.length * 40 ≤ 140737488351232 ∧ ∀ y ∈ xs, sI y.1 ∧ (sB y.2.1 ∧ sI y.2.2)) (fun xs => (xs.map fun y => (mI y.1 + (mB y.2.1 + mI y.2.2)) + 1).sum + 1) :=
  opens_slice Try.underlying52 (by kernel_rfl) (by kernel_rfl) opens_op
end Go.Proofs.Ytacnogbdifgmeaa
