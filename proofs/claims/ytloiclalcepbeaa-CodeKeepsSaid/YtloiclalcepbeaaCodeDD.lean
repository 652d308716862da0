/- Decode in one form: what it answers is a message and a number, in either case. -/
import Derived.Test.YtloiclalcepbeaaCodeD
import Derived.Test.YtloiclalcepbeaaJoin
set_option linter.unusedVariables false
namespace Go.Proofs.Ytloiclalcepbeaa
open Go.RowKit Go.Proofs.YtloiclalcepbeaaW.PrintWords
/-- What Decode answers, as a pair. -/
def decRes (xs : List Int) : Msg × Int := match rDec xs with
  | .ok m => (m, 0)
  | .error c => (zeroMsg, c)
theorem decode2_ok (A : Option Addr) (n c : Nat) (xs : List Int) (w : World) (hC : (Kd.int .u8).C w A n xs) (hc : n ≤ c) (hb : bytes xs) :
    Calls Try.prog 28 #[.slice A n c] w fun e w' => ∃ m s1 s2 s3 s4 k, decRes xs = (m, k) ∧ HdrsOf m s1 s2 s3 s4 ∧ e = .returned (.tuple #[msgV m s1 s2 s3 s4, .int .i64 k]) ∧ Hw w w' (listsP m.nodes m.muts m.pre m.rows s1 s2 s3 s4 * HP.emp) := by
  refine (decode_ok A n c xs w hC hc hb).mono ?_
  rintro e w' (⟨m, s1, s2, s3, s4, hr, hh, rfl, g⟩ | ⟨k, hr, hk, rfl, g⟩)
  · exact ⟨m, s1, s2, s3, s4, 0, by unfold decRes; rw [hr], hh, rfl, g⟩
  · refine ⟨zeroMsg, nilH, nilH, nilH, nilH, k, by unfold decRes; rw [hr], ⟨⟨rfl, by decide⟩, ⟨rfl, by decide⟩, ⟨rfl, by decide⟩, ⟨rfl, by decide⟩⟩, rfl, ?_⟩
    have h0 : Hw w w' HP.emp := (Hw.start w).from_below g
    have h1 := crow_none (sz := 5) (e := 93) (A := none) (n := 0) (cs := []) rfl rfl h0
    have h2 := crow_none (sz := 4) (e := 91) (A := none) (n := 0) (cs := []) rfl rfl h1
    have h3 := crow_none (sz := 4) (e := 83) (A := none) (n := 0) (cs := []) rfl rfl h2
    have h4 := crow_none (sz := 1) (e := 3) (A := none) (n := 0) (cs := []) rfl rfl h3
    refine h4.as ?_
    show _ = crow 1 3 none 0 0 [] * (crow 4 83 none 0 0 [] * (crow 4 91 none 0 0 [] * crow 5 93 none 0 0 [])) * HP.emp
    ac_rfl
end Go.Proofs.Ytloiclalcepbeaa
