/- What catches a message's giving up. -/
import Derived.Test.YtloiclalcepbeaaCodeM
import Derived.Tactics
import Derived.Tactics2
import Derived.Defers
import Derived.Recover
import Derived.Laws.Pointers
set_option linter.unusedVariables false
set_option linter.unusedSimpArgs false
namespace Go.Proofs.Ytloiclalcepbeaa
open Go.RowKit Go.Proofs.YtloiclalcepbeaaW.PrintWords Go.Proofs.YtloiclalcepbeaaW.PrintLast
theorem assertB_yes (v : Value) (W : World) : (Instr.typeAssert (.iface 141 v) 20 141 true).run Try.prog W = .ok (.tuple #[v, .bool true]) W := by kernel_rfl
theorem assertB_nil (W : World) : (Instr.typeAssert .nilIface 20 141 true).run Try.prog W = .ok (.tuple #[.agg #[.int .i64 0], .bool false]) W := by kernel_rfl
set_option maxRecDepth 100000 in
theorem caught_idle (q : Nat) (w : World) :
    CallsD Try.prog 50 #[.pointer (some ⟨q, 0, none⟩)] .returning w fun e u' w' => u' = .returning ∧ e = .returned (.tuple #[]) ∧ w' = w.alloc (.cells #[.int .i64 0] 141) := by
  have h1 := assertB_nil
  refine callsD_of_wpS Try.func50 rfl fun c₀ cs hu => ?_
  apply wpS_seq
  apply wpS_region
  simp [wpOpsS, go_sem, recoverD, hu, Try.ntmps50, Exit.thenS, h1]
  apply wpS_seq
  apply wpS_region
  simp [wpOpsS, go_sem, hu, Exit.thenS, Array.replicate]
  refine wpS_cond (t := false) (by simp [Act.eval, Array.replicate]) ?_
  simp only [Bool.false_eq_true, if_false]
  refine wpS_of_wp (wp_skip ?_)
  cases c₀
  simp_all [bodyPostS, results, Try.results50]
set_option maxRecDepth 100000 in
theorem caught_some (q : Nat) (x : Value) (n : Int) (w : World) (hc : w.cell? ⟨q, 0, none⟩ = some x) (hz : w.frozen? ⟨q, 0, none⟩ = false) (hq : q < w.heap.size) :
    CallsD Try.prog 50 #[.pointer (some ⟨q, 0, none⟩)] (.panicking [{ v := .iface 141 (.agg #[.int .i64 n]), recovered := false }]) w fun e u' w' =>
      u' = .panicking [{ v := .iface 141 (.agg #[.int .i64 n]), recovered := true }] ∧ e = .returned (.tuple #[]) ∧ w' = (w.alloc (.cells #[.int .i64 n] 141)).setCell ⟨q, 0, none⟩ (.int .i64 n) := by
  have h1 := assertB_yes
  have h2 : (w.alloc (.cells #[.int .i64 n] 141)).cell? ⟨q, 0, none⟩ = some x := by rw [World.cell?_alloc_past _ _ _ hq]; exact hc
  have h3 : (w.alloc (.cells #[.int .i64 n] 141)).frozen? ⟨q, 0, none⟩ = false := by rw [World.frozen?_alloc_past _ _ _ hq]; exact hz
  refine callsD_of_wpS Try.func50 rfl fun c₀ cs hu => ?_
  apply wpS_seq
  apply wpS_region
  simp [wpOpsS, go_sem, recoverD, hu, Try.ntmps50, Exit.thenS, h1]
  apply wpS_seq
  apply wpS_region
  simp [wpOpsS, go_sem, hu, Exit.thenS, Array.replicate]
  refine wpS_cond (t := true) (by simp [Act.eval, Array.replicate]) ?_
  simp only [if_true]
  apply wpS_region
  simp [wpOpsS, go_sem, h2, h3, bodyPostS, results, Try.results50]
end Go.Proofs.Ytloiclalcepbeaa
