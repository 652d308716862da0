/- The row of CodeRow: whatever the arguments, the law answers true and leaves them as they were. By its walk (YtloiclalcepbeaaWalkCodeRow). -/
import Derived.Test.YtloiclalcepbeaaRows
import Derived.Test.YtloiclalcepbeaaArgs
import Derived.Test.YtloiclalcepbeaaKindsCode
import Derived.Test.YtloiclalcepbeaaWalkCodeRow
import Derived.WalkKit
import Derived.ProofKit
import Derived.OpenShut
import Derived.ShutString
import Derived.ChangeOld
import Derived.Below
import Derived.SizedLaws
import Derived.Deep.CondSized
namespace Go.Proofs.Ytloiclalcepbeaa.codeRowUpto
open Go.ChangeShapes Go.WideShapes Go.ChangeAt Go.RowKit
open Go.ChangeMaps (open_string shut_string)
set_option linter.unusedVariables false
theorem own : ownKnob Try.prog.godebug = none := by kernel_rfl
theorem laidOut : laidOutB Try.prog = true := by kernel_rfl
set_option maxRecDepth 100000 in
theorem lifted (os : Os) (started : os.Started) (H : Type) (enc : TypeId × Value → H)
    (F : Stop.Interp) : ReturnsInHanded {} Try.checked os 13 .any ((Rows.OpenSpec.upto Rows.codeRowSpec).pre6 enc Try.prog Try.f13 Rows.codeRowUptoRow.domain false) (((Rows.OpenSpec.upto Rows.codeRowSpec).at F).post enc Try.prog Try.f13 false true false false) := by
  refine returnsInHanded_of_cond_sized (C := Try.checked) (s := Rows.OpenSpec.upto Rows.codeRowSpec) (k := Rows.uptoSmall) rfl own started (by kernel_rfl) Try.func13
    (OpenSpec.witness (enc := enc) (C := Try.checked) (s := Rows.OpenSpec.upto Rows.codeRowSpec) (k := Rows.uptoSmall) rfl false ⟨#[], #[.slice none 0 0], []⟩ 8 (by kernel_rfl) (by kernel_rfl) (by kernel_rfl)
      (x := ([.nil], [], [])) (by kernel_rfl) rfl (by kernel_rfl)) ?_
  intro W base args ds gs before hval0 hW hcnd hk hsz0 _
  have hsz : (DataW.weightsEach Try.prog (Try.f13.params.toList ++ Rows.codeRowSpec.plain.varTypes Try.prog) (ds ++ gs)).all (· ≤ reachBytes) = true := hsz0
  have hval : ∀ (j : Nat) t v, Try.f13.params[j]? = some t → args[j]? = some v → Value.okWide Try.prog W .any base t v := hval0
  have hW' := hW
  obtain ⟨p, q, hA0, hV, rfl, hfz, hnd⟩ := hW
  have hA : DataW.TrodAll enc Try.prog W 0 (fun _ => true) true Try.f13.params.toList args.toList ds p := hA0
  rw [Try.params13] at hA hval hsz
  obtain ⟨v0, vs0, d0, ds0, p0, q0, hargs, rfl, rfl, h0, r0⟩ := trodAll_cons hA
  obtain ⟨rfl, rfl, rfl⟩ := trodAll_nil r0
  obtain rfl : args = #[v0] := by cases args; simp_all
  obtain ⟨rfl, rfl⟩ := trodVars_none hV
  obtain ⟨a0, len0, cap0, rfl⟩ := okWide_slice Try.underlying64 (hval 0 64 v0 rfl rfl)
  have k0 := h0
  have lt0 : ∀ x ∈ p0, x.block < W.heap.size := by obtain ⟨m, hm⟩ := k0; exact DataW.trod_lt m _ _ _ hm
  obtain ⟨f0, hf0⟩ := h0
  obtain ⟨y0, hK0, hS0, hM0⟩ := (copens_nums).2 H enc W 0 f0 _ _ _ _ hf0
  obtain ⟨A0, c0, hcs0, hl0, hC0⟩ := hK0
  obtain ⟨rfl, rfl, rfl⟩ : a0 = A0 ∧ len0 = y0.length ∧ cap0 = c0 := by simpa [Value.cells] using hcs0
  replace hS0 := hS0 (fun m hm => of_decide_eq_true (List.all_eq_true.1 hsz m (DataW.weights_mem_each (j := 0) (t := 64) rfl rfl m hm)))
  have hbulk := of_decide_eq_true hk
  simp only [List.append_nil, Rows.uptoBulkAll, Rows.uptoBulk] at hbulk
  dsimp only at hM0
  clear hA0 hval0 hsz0 hsz
  refine (codeRowUpto_walk a0 cap0 y0 W hC0 hl0 hS0 ?hB).mono fun e W' ⟨he, bel⟩ => ?_
  case hB => (try simp only [Array.length_toList] at hbulk); (try change _ + _ ≤ _); omega
  subst he
  exact ⟨_, rfl, _, _, _, [], _, [], hW', trodAll_mk1 (shut_bool Try.underlying4 _), (trodAll_cons_mk (Below.trod laidOut (by kernel_rfl) (of_decide_eq_true (by kernel_rfl)) k0 bel lt0) trodAll_mk0), rfl, bel.frame _, fun h => by cases h⟩
theorem over : Rows.codeRowUptoRow.holds Try.pinned (Rows.OpenSpec.upto Rows.codeRowSpec) :=
  OpenClaim.holds_of_cond 13 Try.f13 rfl rfl rfl rfl rfl rfl rfl ⟨rfl, rfl, rfl, rfl, rfl⟩ rfl rfl rfl rfl rfl (by kernel_rfl) Try.func13 (by kernel_rfl)
    (of_decide_eq_true (by kernel_rfl)) (by unfold Func.isWrapper; first | (rw [if_pos (by decide +kernel)]; kernel_rfl) | (rw [if_neg (by decide +kernel)]; exact ⟨rfl, rfl⟩))
    (fun os started H enc _ F => lifted os started H enc F)
end Go.Proofs.Ytloiclalcepbeaa.codeRowUpto
namespace Go.Proofs.Ytloiclalcepbeaa
theorem codeRowUpto_holds : Rows.CodeRowUptoSaid := codeRowUpto.over
#print axioms codeRowUpto_holds
end Go.Proofs.Ytloiclalcepbeaa
