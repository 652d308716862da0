/-
  No cell of these rows narrows 'for every input' (looked for: loops, veiled, ifaces, maps, wideKeys, modest, calm, conditions, laid).
  DERIVED. THE GIVEN ROWS OF THIS SEAT. 8 by the template 'for every input the law returns true; each argument reads behind the call as it read before'; 0 by the template 'total and deterministic' (their statements: YtckdkbjobipniaaTotals.lean).
  GIVEN WITH THE SEED: the statements are not yours to turn. If you find one false, say at which input.
  Laid BY PROGRAM, IN A SANDBOX (cutbox-rows.mjs): the forced cells as the released guide's own fill.sh prints them over the translation 7587038c802b9f42… (all of the seat's roots in one cut). By AI agents, Wed Nov 11 2026. No macro, syntax, notation, axiom, sorry.
-/
import Derived.Test.YtckdkbjobipniaaChecked
import GoSem.Claim
import GoSem.ClaimJoined
import GoSem.ClaimMapViews
import Derived.JoinedTies
import Derived.KernelRfl
namespace Go.Proofs.Ytckdkbjobipniaa
/- THE CELL 'sum', in the pinned program and in every row, IS THE sha256 OF THE DUMP (.gsa) THAT YtckdkbjobipniaaProg.lean LOADS. Nothing in Lean hashes anything: it is a label: what it is worth is what the hold of that sum in a sandbox is worth. -/
noncomputable def Try.pinned : Pinned := { name := "ytckdkbjobipniaa", sum := "7587038c802b9f426583d2060b633da848a9a51dcab713167159dccb8f8a06eb", checked := Try.checked }
namespace Rows
def none {H : Type} : Left H := { results := [], args := [] }

/-- 'porterlaw02.CodeReads': WHATEVER THE INPUT: true; the input reads as it did. -/
def codeReadsSpec : ChangeSpec := { name := "codeReads", fn := fun _ => fun
  | [d1, d2] => { results := [.lit (.bool true)], args := [d1, d2] }
  | _ => none }
def codeReadsRow : OpenClaim := { program := "ytckdkbjobipniaa", sum := "7587038c802b9f426583d2060b633da848a9a51dcab713167159dccb8f8a06eb", func := "porter/porterlaw02.CodeReads", spec := "codeReads", unfollowed := true, recurses := true, apart := false }
def CodeReadsSaid : Prop := codeReadsRow.holds Try.pinned (OpenSpec.ofChange codeReadsSpec)

/-- ITS FALSE NEIGHBOUR: 'it returns false'. Refute it at one input. -/
def codeReadsWrong : ChangeSpec := { name := "codeReads", fn := fun _ => fun
  | [d1, d2] => { results := [.lit (.bool false)], args := [d1, d2] }
  | _ => none }
def CodeReadsWrongFalsely : Prop := codeReadsRow.holds Try.pinned (OpenSpec.ofChange codeReadsWrong)

/-- 'porterlaw04.LogPlays': WHATEVER THE INPUT: true; the input reads as it did. -/
def logPlaysSpec : ChangeSpec := { name := "logPlays", fn := fun _ => fun
  | [d1, d2] => { results := [.lit (.bool true)], args := [d1, d2] }
  | _ => none }
def logPlaysRow : OpenClaim := { program := "ytckdkbjobipniaa", sum := "7587038c802b9f426583d2060b633da848a9a51dcab713167159dccb8f8a06eb", func := "porter/porterlaw04.LogPlays", spec := "logPlays", unfollowed := true, recurses := true, apart := false }
def LogPlaysSaid : Prop := logPlaysRow.holds Try.pinned (OpenSpec.ofChange logPlaysSpec)

/-- ITS FALSE NEIGHBOUR: 'it returns false'. Refute it at one input. -/
def logPlaysWrong : ChangeSpec := { name := "logPlays", fn := fun _ => fun
  | [d1, d2] => { results := [.lit (.bool false)], args := [d1, d2] }
  | _ => none }
def LogPlaysWrongFalsely : Prop := logPlaysRow.holds Try.pinned (OpenSpec.ofChange logPlaysWrong)

/-- 'porterlaw14.OraclePlays': WHATEVER THE INPUT: true; the input reads as it did. -/
def oraclePlaysSpec : ChangeSpec := { name := "oraclePlays", fn := fun _ => fun
  | [d1, d2] => { results := [.lit (.bool true)], args := [d1, d2] }
  | _ => none }
def oraclePlaysRow : OpenClaim := { program := "ytckdkbjobipniaa", sum := "7587038c802b9f426583d2060b633da848a9a51dcab713167159dccb8f8a06eb", func := "porter/porterlaw14.OraclePlays", spec := "oraclePlays", unfollowed := true, recurses := true, apart := false }
def OraclePlaysSaid : Prop := oraclePlaysRow.holds Try.pinned (OpenSpec.ofChange oraclePlaysSpec)

/-- ITS FALSE NEIGHBOUR: 'it returns false'. Refute it at one input. -/
def oraclePlaysWrong : ChangeSpec := { name := "oraclePlays", fn := fun _ => fun
  | [d1, d2] => { results := [.lit (.bool false)], args := [d1, d2] }
  | _ => none }
def OraclePlaysWrongFalsely : Prop := oraclePlaysRow.holds Try.pinned (OpenSpec.ofChange oraclePlaysWrong)

/-- 'porterlaw14.OracleRises': WHATEVER THE INPUT: true; the input reads as it did. -/
def oracleRisesSpec : ChangeSpec := { name := "oracleRises", fn := fun _ => fun
  | [d1, d2] => { results := [.lit (.bool true)], args := [d1, d2] }
  | _ => none }
def oracleRisesRow : OpenClaim := { program := "ytckdkbjobipniaa", sum := "7587038c802b9f426583d2060b633da848a9a51dcab713167159dccb8f8a06eb", func := "porter/porterlaw14.OracleRises", spec := "oracleRises", unfollowed := true, recurses := true, apart := false }
def OracleRisesSaid : Prop := oracleRisesRow.holds Try.pinned (OpenSpec.ofChange oracleRisesSpec)

/-- ITS FALSE NEIGHBOUR: 'it returns false'. Refute it at one input. -/
def oracleRisesWrong : ChangeSpec := { name := "oracleRises", fn := fun _ => fun
  | [d1, d2] => { results := [.lit (.bool false)], args := [d1, d2] }
  | _ => none }
def OracleRisesWrongFalsely : Prop := oracleRisesRow.holds Try.pinned (OpenSpec.ofChange oracleRisesWrong)

/-- 'porterlaw14.OracleFull': WHATEVER THE INPUT: true; the input reads as it did. -/
def oracleFullSpec : ChangeSpec := { name := "oracleFull", fn := fun _ => fun
  | [d1, d2] => { results := [.lit (.bool true)], args := [d1, d2] }
  | _ => none }
def oracleFullRow : OpenClaim := { program := "ytckdkbjobipniaa", sum := "7587038c802b9f426583d2060b633da848a9a51dcab713167159dccb8f8a06eb", func := "porter/porterlaw14.OracleFull", spec := "oracleFull", unfollowed := true, recurses := true, apart := false }
def OracleFullSaid : Prop := oracleFullRow.holds Try.pinned (OpenSpec.ofChange oracleFullSpec)

/-- ITS FALSE NEIGHBOUR: 'it returns false'. Refute it at one input. -/
def oracleFullWrong : ChangeSpec := { name := "oracleFull", fn := fun _ => fun
  | [d1, d2] => { results := [.lit (.bool false)], args := [d1, d2] }
  | _ => none }
def OracleFullWrongFalsely : Prop := oracleFullRow.holds Try.pinned (OpenSpec.ofChange oracleFullWrong)

/-- 'porterlaw18.MovePlays': WHATEVER THE INPUT: true; the input reads as it did. -/
def movePlaysSpec : ChangeSpec := { name := "movePlays", fn := fun _ => fun
  | [d1, d2, d3] => { results := [.lit (.bool true)], args := [d1, d2, d3] }
  | _ => none }
def movePlaysRow : OpenClaim := { program := "ytckdkbjobipniaa", sum := "7587038c802b9f426583d2060b633da848a9a51dcab713167159dccb8f8a06eb", func := "porter/porterlaw18.MovePlays", spec := "movePlays", unfollowed := true, recurses := true, apart := false }
def MovePlaysSaid : Prop := movePlaysRow.holds Try.pinned (OpenSpec.ofChange movePlaysSpec)

/-- ITS FALSE NEIGHBOUR: 'it returns false'. Refute it at one input. -/
def movePlaysWrong : ChangeSpec := { name := "movePlays", fn := fun _ => fun
  | [d1, d2, d3] => { results := [.lit (.bool false)], args := [d1, d2, d3] }
  | _ => none }
def MovePlaysWrongFalsely : Prop := movePlaysRow.holds Try.pinned (OpenSpec.ofChange movePlaysWrong)

/-- 'porterlaw18.MoveWalk': WHATEVER THE INPUT: true; the input reads as it did. -/
def moveWalkSpec : ChangeSpec := { name := "moveWalk", fn := fun _ => fun
  | [d1, d2] => { results := [.lit (.bool true)], args := [d1, d2] }
  | _ => none }
def moveWalkRow : OpenClaim := { program := "ytckdkbjobipniaa", sum := "7587038c802b9f426583d2060b633da848a9a51dcab713167159dccb8f8a06eb", func := "porter/porterlaw18.MoveWalk", spec := "moveWalk", unfollowed := true, recurses := true, apart := false }
def MoveWalkSaid : Prop := moveWalkRow.holds Try.pinned (OpenSpec.ofChange moveWalkSpec)

/-- ITS FALSE NEIGHBOUR: 'it returns false'. Refute it at one input. -/
def moveWalkWrong : ChangeSpec := { name := "moveWalk", fn := fun _ => fun
  | [d1, d2] => { results := [.lit (.bool false)], args := [d1, d2] }
  | _ => none }
def MoveWalkWrongFalsely : Prop := moveWalkRow.holds Try.pinned (OpenSpec.ofChange moveWalkWrong)

/-- 'porterlaw18.MoveOnce': WHATEVER THE INPUT: true; the input reads as it did. -/
def moveOnceSpec : ChangeSpec := { name := "moveOnce", fn := fun _ => fun
  | [d] => { results := [.lit (.bool true)], args := [d] }
  | _ => none }
def moveOnceRow : OpenClaim := { program := "ytckdkbjobipniaa", sum := "7587038c802b9f426583d2060b633da848a9a51dcab713167159dccb8f8a06eb", func := "porter/porterlaw18.MoveOnce", spec := "moveOnce", unfollowed := true, recurses := true, apart := false }
def MoveOnceSaid : Prop := moveOnceRow.holds Try.pinned (OpenSpec.ofChange moveOnceSpec)

/-- ITS FALSE NEIGHBOUR: 'it returns false'. Refute it at one input. -/
def moveOnceWrong : ChangeSpec := { name := "moveOnce", fn := fun _ => fun
  | [d] => { results := [.lit (.bool false)], args := [d] }
  | _ => none }
def MoveOnceWrongFalsely : Prop := moveOnceRow.holds Try.pinned (OpenSpec.ofChange moveOnceWrong)

/- THE SECOND FORM. 'bulk': how many values and letters a reading holds, each counted each time it is reached (what is shared counts as often as it is met; a slice's spare places count too). A statement '..UptoSaid' is the law's where the arguments, and the package variables that the reading takes, are together of bulk at most 1048576: NARROWER than '..Said'. Prove '..Said' where nothing that the law and all that it calls make is longer than what came in: it says more and counts as full. Else prove '..UptoSaid'. A law counts once. -/
mutual
def uptoBulk {H : Type} : DataW H → Nat
  | .lit (.string bytes) => bytes.length + 1
  | .lit _ => 1
  | .nil => 1
  | .ptr d => uptoBulk d + 1
  | .slice elems spare => uptoBulkAll elems + uptoBulkAll spare + 1
  | .agg parts => uptoBulkAll parts + 1
  | .iface _ d => uptoBulk d + 1
  | .map entries => uptoBulkEntries entries + 1
  | .held _ => 1
def uptoBulkAll {H : Type} : List (DataW H) → Nat
  | [] => 0
  | d :: r => uptoBulk d + uptoBulkAll r
def uptoBulkEntries {H : Type} : List (Lit × DataW H) → Nat
  | [] => 0
  | x :: r => uptoBulkEntry x + uptoBulkEntries r
def uptoBulkEntry {H : Type} : Lit × DataW H → Nat
  | (.string bytes, d) => bytes.length + uptoBulk d + 1
  | (_, d) => uptoBulk d + 1
 end
def uptoSmall : (H : Type) → List (DataW H) → Bool := fun _ ds => decide (uptoBulkAll ds ≤ 1048576)
def OpenSpec.upto (s : _root_.Go.ChangeSpec) : _root_.Go.OpenSpec := { _root_.Go.OpenSpec.ofChange s with cond := some uptoSmall }

/-- 'porterlaw02.CodeReads', WHERE WHAT IT READS IS OF BULK AT MOST 1048576: true; the input reads as it did. -/
def codeReadsUptoRow : OpenClaim := { program := "ytckdkbjobipniaa", sum := "7587038c802b9f426583d2060b633da848a9a51dcab713167159dccb8f8a06eb", func := "porter/porterlaw02.CodeReads", spec := "codeReads", unfollowed := true, recurses := true, apart := false, narrowed := true }
def CodeReadsUptoSaid : Prop := codeReadsUptoRow.holds Try.pinned (OpenSpec.upto codeReadsSpec)

/-- 'porterlaw04.LogPlays', WHERE WHAT IT READS IS OF BULK AT MOST 1048576: true; the input reads as it did. -/
def logPlaysUptoRow : OpenClaim := { program := "ytckdkbjobipniaa", sum := "7587038c802b9f426583d2060b633da848a9a51dcab713167159dccb8f8a06eb", func := "porter/porterlaw04.LogPlays", spec := "logPlays", unfollowed := true, recurses := true, apart := false, narrowed := true }
def LogPlaysUptoSaid : Prop := logPlaysUptoRow.holds Try.pinned (OpenSpec.upto logPlaysSpec)

/-- 'porterlaw14.OraclePlays', WHERE WHAT IT READS IS OF BULK AT MOST 1048576: true; the input reads as it did. -/
def oraclePlaysUptoRow : OpenClaim := { program := "ytckdkbjobipniaa", sum := "7587038c802b9f426583d2060b633da848a9a51dcab713167159dccb8f8a06eb", func := "porter/porterlaw14.OraclePlays", spec := "oraclePlays", unfollowed := true, recurses := true, apart := false, narrowed := true }
def OraclePlaysUptoSaid : Prop := oraclePlaysUptoRow.holds Try.pinned (OpenSpec.upto oraclePlaysSpec)

/-- 'porterlaw14.OracleRises', WHERE WHAT IT READS IS OF BULK AT MOST 1048576: true; the input reads as it did. -/
def oracleRisesUptoRow : OpenClaim := { program := "ytckdkbjobipniaa", sum := "7587038c802b9f426583d2060b633da848a9a51dcab713167159dccb8f8a06eb", func := "porter/porterlaw14.OracleRises", spec := "oracleRises", unfollowed := true, recurses := true, apart := false, narrowed := true }
def OracleRisesUptoSaid : Prop := oracleRisesUptoRow.holds Try.pinned (OpenSpec.upto oracleRisesSpec)

/-- 'porterlaw14.OracleFull', WHERE WHAT IT READS IS OF BULK AT MOST 1048576: true; the input reads as it did. -/
def oracleFullUptoRow : OpenClaim := { program := "ytckdkbjobipniaa", sum := "7587038c802b9f426583d2060b633da848a9a51dcab713167159dccb8f8a06eb", func := "porter/porterlaw14.OracleFull", spec := "oracleFull", unfollowed := true, recurses := true, apart := false, narrowed := true }
def OracleFullUptoSaid : Prop := oracleFullUptoRow.holds Try.pinned (OpenSpec.upto oracleFullSpec)

/-- 'porterlaw18.MovePlays', WHERE WHAT IT READS IS OF BULK AT MOST 1048576: true; the input reads as it did. -/
def movePlaysUptoRow : OpenClaim := { program := "ytckdkbjobipniaa", sum := "7587038c802b9f426583d2060b633da848a9a51dcab713167159dccb8f8a06eb", func := "porter/porterlaw18.MovePlays", spec := "movePlays", unfollowed := true, recurses := true, apart := false, narrowed := true }
def MovePlaysUptoSaid : Prop := movePlaysUptoRow.holds Try.pinned (OpenSpec.upto movePlaysSpec)

/-- 'porterlaw18.MoveWalk', WHERE WHAT IT READS IS OF BULK AT MOST 1048576: true; the input reads as it did. -/
def moveWalkUptoRow : OpenClaim := { program := "ytckdkbjobipniaa", sum := "7587038c802b9f426583d2060b633da848a9a51dcab713167159dccb8f8a06eb", func := "porter/porterlaw18.MoveWalk", spec := "moveWalk", unfollowed := true, recurses := true, apart := false, narrowed := true }
def MoveWalkUptoSaid : Prop := moveWalkUptoRow.holds Try.pinned (OpenSpec.upto moveWalkSpec)

/-- 'porterlaw18.MoveOnce', WHERE WHAT IT READS IS OF BULK AT MOST 1048576: true; the input reads as it did. -/
def moveOnceUptoRow : OpenClaim := { program := "ytckdkbjobipniaa", sum := "7587038c802b9f426583d2060b633da848a9a51dcab713167159dccb8f8a06eb", func := "porter/porterlaw18.MoveOnce", spec := "moveOnce", unfollowed := true, recurses := true, apart := false, narrowed := true }
def MoveOnceUptoSaid : Prop := moveOnceUptoRow.holds Try.pinned (OpenSpec.upto moveOnceSpec)

end Rows
end Go.Proofs.Ytckdkbjobipniaa
