/- The small bench of the queue's statements answers true. -/
import Derived.Test.YtacnogbdifgmeaaQueueS
set_option linter.unusedVariables false
set_option linter.unusedSimpArgs false
namespace Go.Proofs.Ytacnogbdifgmeaa
open Go.RowKit Go.Conc Go.Proofs.YtacnogbdifgmeaaW.PrintWords
def qa : ByteArray := ⟨#[97]⟩
def qb : ByteArray := ⟨#[98]⟩
def qc : ByteArray := ⟨#[99]⟩
set_option maxHeartbeats 1600000 in
set_option maxRecDepth 100000 in
theorem qawake_ok {w0 w : World} {F : HP} (h : Hw w0 w F) :
    Calls Try.prog 21 #[] w fun e w' => e = .returned (.bool true) ∧ Hw w0 w' F := by
  go_enter Try.func21, Try.ntmps21
  go_wp2_with fail
  refine (qnewS_ok 2 (by omega) (by omega) h).mono ?_
  rintro e w1 ⟨p, rfl, h1⟩
  have H1 := Aside0.mk h1
  clear h h1
  go_wp2_with fail
  have hA := H1.out.alloc (.cells #[.string qa, .string qb, .string qc] 9)
  refine (qputS_ok p 2 [] [qa, qb, qc] 0 _ 3 3 rfl (hA.as (Q := queS p 2 [] 0 * (blk w1.heap.size (.cells #[.string qa, .string qb, .string qc] 9) * F)) (by ac_rfl)) (by omega) (by omega) (fun w' h' => C_blk (enc := Value.string) (xs := [qa, qb, qc]) (by decide) h'.blk_at.1) (by omega)).mono ?_
  rintro e w2 ⟨k, hk, rfl, h2⟩
  have ek : k = 2 := by simpa using hk
  subst ek
  have H2 := Aside0.mk (h2.as (Q := queS p 2 [qa, qb] 1 * F * blk w1.heap.size (.cells #[.string qa, .string qb, .string qc] 9)) (by
    show queS p 2 [qa, qb] 1 * (blk w1.heap.size (.cells #[.string qa, .string qb, .string qc] 9) * F) = _
    ac_rfl)).left
  clear h2 H1 hA hk
  go_wp2_with fail
  refine (qlenS_k p 2 [qa, qb] 1 2 rfl H2.out).mono ?_
  rintro e w3 ⟨rfl, rfl⟩
  go_wp2_with fail
  refine (qlostS_ok p 2 [qa, qb] 1 H2.out).mono ?_
  rintro e w3 ⟨rfl, rfl⟩
  go_wp2_with fail
  refine (qtakeS_some p 2 qa [qb] 1 H2.out).mono ?_
  rintro e w4 ⟨rfl, h4⟩
  have hqa : qa = ⟨#[97]⟩ := rfl
  have H4 := Aside0.mk h4.right
  clear h4 H2
  go_wp2_with fail
  go_ret
  exact ⟨rfl, H4.out⟩
end Go.Proofs.Ytacnogbdifgmeaa
