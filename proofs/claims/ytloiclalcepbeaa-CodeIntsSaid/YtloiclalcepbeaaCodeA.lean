/- The law's arguments and what is written: small facts. -/
import Derived.Test.YtloiclalcepbeaaCodeQB
import Derived.Test.YtloiclalcepbeaaKindsMsg
set_option linter.unusedVariables false
namespace Go.Proofs.Ytloiclalcepbeaa
open Go.RowKit
theorem encMsg_bytes (m : Msg) : bytes (encMsg m) := by
  have hI : ∀ n, bytes (encI n) := fun n => venc_bytes _
  have ha : ∀ {xs ys : List Int}, bytes xs → bytes ys → bytes (xs ++ ys) := fun h1 h2 x hx => (List.mem_append.1 hx).elim (h1 x) (h2 x)
  have hf : ∀ {α : Type} (f : α → List Int) (l : List α), (∀ a, bytes (f a)) → bytes (l.flatMap f) := fun f l h x hx => by
    obtain ⟨a, _, h2⟩ := List.mem_flatMap.1 hx
    exact h a x h2
  have hT : ∀ t, bytes (encT t) := fun t => ha (ha (ha (hI _) (numsOf_bytes _)) (ha (hI _) (numsOf_bytes _))) (ha (hI _) (numsOf_bytes _))
  have hB : ∀ b, bytes [bitN b] := fun b => by cases b <;> (intro x hx; simp [bitN] at hx; omega)
  have hM : ∀ m, bytes (encM m) := fun m => ha (hB m.1) (hT m.2)
  have hR : ∀ r, bytes (encR r) := fun r => ha (ha (hT _) (hI _)) (hI _)
  exact ha (ha (ha (ha (ha (hf _ _ hI) (hB _)) (ha (hI _) (hf _ _ hI))) (ha (hI _) (hf _ _ hM))) (ha (hI _) (hf _ _ hM))) (ha (hI _) (hf _ _ hR))
theorem bytes_wf {xs : List Int} (h : ∀ x ∈ xs, (Lit.int .u8 x).wf = true) : bytes xs := by
  intro x hx
  have := h x hx
  simp [Lit.wf] at this
  first | omega | (simp [IntKind.min, IntKind.max, IntKind.bits, IntKind.signed] at this; omega)
theorem ones_sum {α : Type} : ∀ l : List α, (l.map fun _ => 1).sum = l.length
  | [] => rfl
  | _ :: l => by rw [List.map_cons, List.sum_cons, ones_sum l, List.length_cons]; omega
end Go.Proofs.Ytloiclalcepbeaa
