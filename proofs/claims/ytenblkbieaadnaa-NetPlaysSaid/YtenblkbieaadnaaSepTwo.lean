/- Worlds by parts, more: conversions, made rows. -/
import Derived.Test.YtenblkbieaadnaaSep
import Derived.Lib.SlBytesConst
set_option linter.unusedVariables false
set_option linter.unusedSimpArgs false
namespace Go.Proofs.Ytenblkbieaadnaa
open Go.RowKit Go.Proofs.YtenblkbieaadnaaW.PrintWords
/-- '[]byte("constant")': the literal's own block bears a mark. -/
theorem conv_const {P : Program} (t e : TypeId) (ht : P.underlying t = some (.slice e)) (he : P.underlying e = some (.int .u8)) (w : World) (C : Array Value) (n c b : Nat) (hb : b = w.heap.size) :
    (convert t t (.slice (some ⟨b, 0, none⟩) n c)).run P (w.alloc (.cells C e)) = .ok (.slice (some ⟨b, 0, none⟩) n c) (w.alloc (.cells C e (C.size, C.size + 1))) := by
  subst hb
  exact Lib.run_convert_bytes_const w t e C n c ht he
theorem madeCells_int (k : IntKind) (m : Nat) : madeCells #[Value.int k 0] m = ((List.replicate m (0 : Int)).map (Value.int k)).toArray := by
  apply Array.ext'
  apply List.ext_getElem
  · simp [madeCells]
  · intro i h1 h2
    simp [madeCells, Nat.mod_one]
/-- A row of bytes as a string. -/
theorem Hw.row_string {P : Program} {w0 w : World} {F : HP} {src dst e e' : TypeId} {A : Option Addr} {n c : Nat} {xs : List Int} (h : Hw w0 w (row (Kd.int .u8) e' (.slice A n c) xs * F))
    (hs : P.underlying src = some (.slice e)) (he : P.underlying e = some (.int .u8)) (hd : P.underlying dst = some .string) : (convert src dst (.slice A n c)).run P w = .ok (.string (strOfNums xs)) w := by
  obtain ⟨A', c', e1, _, hC⟩ := h.row_reads
  injection e1 with e1 e2 e3
  subst e1
  subst e2
  exact Kd.C_string hs he hd hC
theorem mx2_int (k k' : IntKind) (x y : Int) : Builtin.max2 (.int k x) (.int k' y) = pure (.int k (if x < y then y else x)) := by simp only [Builtin.max2, gt_iff_lt]
theorem mn2_int (k k' : IntKind) (x y : Int) : Builtin.min2 (.int k x) (.int k' y) = pure (.int k (if y < x then y else x)) := by simp only [Builtin.min2]
theorem mx_two (ats : Array TypeId) (ty : TypeId) (a b : Value) : Builtin.max_ ats ty #[a, b] = (Builtin.max2 a b >>= fun s => pure s) := by simp only [Builtin.max_, List.foldlM_cons, List.foldlM_nil]
theorem mn_two (ats : Array TypeId) (ty : TypeId) (a b : Value) : Builtin.min_ ats ty #[a, b] = (Builtin.min2 a b >>= fun s => pure s) := by simp only [Builtin.min_, List.foldlM_cons, List.foldlM_nil]
end Go.Proofs.Ytenblkbieaadnaa
