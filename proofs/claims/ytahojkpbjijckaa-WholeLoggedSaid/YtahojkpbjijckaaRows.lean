/-
  No cell of these rows narrows 'for every input' (looked for: loops, veiled, ifaces, maps, wideKeys, modest, calm, conditions, laid).
  DERIVED. THE GIVEN ROWS OF THIS SEAT. 10 by the template 'for every input the law returns true; each argument reads behind the call as it read before'; 0 by the template 'total and deterministic' (their statements: YtahojkpbjijckaaTotals.lean).
  GIVEN WITH THE SEED: the statements are not yours to turn. If you find one false, say at which input.
  Laid BY PROGRAM, IN A SANDBOX (cutbox-rows.mjs): the forced cells as the released guide's own fill.sh prints them over the translation d70734aed2127a28… (all of the seat's roots in one cut). By AI agents, Wed Nov 11 2026. No macro, syntax, notation, axiom, sorry.
-/
import Derived.Test.YtahojkpbjijckaaChecked
import GoSem.Claim
import GoSem.ClaimJoined
import GoSem.ClaimMapViews
import Derived.JoinedTies
import Derived.KernelRfl
namespace Go.Proofs.Ytahojkpbjijckaa
/- THE CELL 'sum', in the pinned program and in every row, IS THE sha256 OF THE DUMP (.gsa) THAT YtahojkpbjijckaaProg.lean LOADS. Nothing in Lean hashes anything: it is a label: what it is worth is what the hold of that sum in a sandbox is worth. -/
noncomputable def Try.pinned : Pinned := { name := "ytahojkpbjijckaa", sum := "d70734aed2127a2836b7994af1260d5c87ddd17191c6ef69c101e2fe86d26214", checked := Try.checked }
namespace Rows
def none {H : Type} : Left H := { results := [], args := [] }

/-- 'porterlaw04.LogPrefix': WHATEVER THE INPUT: true; the input reads as it did. -/
def logPrefixSpec : ChangeSpec := { name := "logPrefix", fn := fun _ => fun
  | [d1, d2, d3] => { results := [.lit (.bool true)], args := [d1, d2, d3] }
  | _ => none }
def logPrefixRow : OpenClaim := { program := "ytahojkpbjijckaa", sum := "d70734aed2127a2836b7994af1260d5c87ddd17191c6ef69c101e2fe86d26214", func := "porter/porterlaw04.LogPrefix", spec := "logPrefix", unfollowed := true, recurses := true, apart := false }
def LogPrefixSaid : Prop := logPrefixRow.holds Try.pinned (OpenSpec.ofChange logPrefixSpec)

/-- ITS FALSE NEIGHBOUR: 'it returns false'. Refute it at one input. -/
def logPrefixWrong : ChangeSpec := { name := "logPrefix", fn := fun _ => fun
  | [d1, d2, d3] => { results := [.lit (.bool false)], args := [d1, d2, d3] }
  | _ => none }
def LogPrefixWrongFalsely : Prop := logPrefixRow.holds Try.pinned (OpenSpec.ofChange logPrefixWrong)

/-- 'porterlaw04.LogCut': WHATEVER THE INPUT: true; the input reads as it did. -/
def logCutSpec : ChangeSpec := { name := "logCut", fn := fun _ => fun
  | [d1, d2] => { results := [.lit (.bool true)], args := [d1, d2] }
  | _ => none }
def logCutRow : OpenClaim := { program := "ytahojkpbjijckaa", sum := "d70734aed2127a2836b7994af1260d5c87ddd17191c6ef69c101e2fe86d26214", func := "porter/porterlaw04.LogCut", spec := "logCut", unfollowed := true, recurses := true, apart := false }
def LogCutSaid : Prop := logCutRow.holds Try.pinned (OpenSpec.ofChange logCutSpec)

/-- ITS FALSE NEIGHBOUR: 'it returns false'. Refute it at one input. -/
def logCutWrong : ChangeSpec := { name := "logCut", fn := fun _ => fun
  | [d1, d2] => { results := [.lit (.bool false)], args := [d1, d2] }
  | _ => none }
def LogCutWrongFalsely : Prop := logCutRow.holds Try.pinned (OpenSpec.ofChange logCutWrong)

/-- 'porterlaw04.LogPlays': WHATEVER THE INPUT: true; the input reads as it did. -/
def logPlaysSpec : ChangeSpec := { name := "logPlays", fn := fun _ => fun
  | [d1, d2] => { results := [.lit (.bool true)], args := [d1, d2] }
  | _ => none }
def logPlaysRow : OpenClaim := { program := "ytahojkpbjijckaa", sum := "d70734aed2127a2836b7994af1260d5c87ddd17191c6ef69c101e2fe86d26214", func := "porter/porterlaw04.LogPlays", spec := "logPlays", unfollowed := true, recurses := true, apart := false }
def LogPlaysSaid : Prop := logPlaysRow.holds Try.pinned (OpenSpec.ofChange logPlaysSpec)

/-- ITS FALSE NEIGHBOUR: 'it returns false'. Refute it at one input. -/
def logPlaysWrong : ChangeSpec := { name := "logPlays", fn := fun _ => fun
  | [d1, d2] => { results := [.lit (.bool false)], args := [d1, d2] }
  | _ => none }
def LogPlaysWrongFalsely : Prop := logPlaysRow.holds Try.pinned (OpenSpec.ofChange logPlaysWrong)

/-- 'porterlaw04.LogAgain': WHATEVER THE INPUT: true; the input reads as it did. -/
def logAgainSpec : ChangeSpec := { name := "logAgain", fn := fun _ => fun
  | [d1, d2] => { results := [.lit (.bool true)], args := [d1, d2] }
  | _ => none }
def logAgainRow : OpenClaim := { program := "ytahojkpbjijckaa", sum := "d70734aed2127a2836b7994af1260d5c87ddd17191c6ef69c101e2fe86d26214", func := "porter/porterlaw04.LogAgain", spec := "logAgain", unfollowed := true, recurses := true, apart := false }
def LogAgainSaid : Prop := logAgainRow.holds Try.pinned (OpenSpec.ofChange logAgainSpec)

/-- ITS FALSE NEIGHBOUR: 'it returns false'. Refute it at one input. -/
def logAgainWrong : ChangeSpec := { name := "logAgain", fn := fun _ => fun
  | [d1, d2] => { results := [.lit (.bool false)], args := [d1, d2] }
  | _ => none }
def LogAgainWrongFalsely : Prop := logAgainRow.holds Try.pinned (OpenSpec.ofChange logAgainWrong)

/-- 'porterlaw04.LogTwo': WHATEVER THE INPUT: true; the input reads as it did. -/
def logTwoSpec : ChangeSpec := { name := "logTwo", fn := fun _ => fun
  | [d1, d2] => { results := [.lit (.bool true)], args := [d1, d2] }
  | _ => none }
def logTwoRow : OpenClaim := { program := "ytahojkpbjijckaa", sum := "d70734aed2127a2836b7994af1260d5c87ddd17191c6ef69c101e2fe86d26214", func := "porter/porterlaw04.LogTwo", spec := "logTwo", unfollowed := true, recurses := true, apart := false }
def LogTwoSaid : Prop := logTwoRow.holds Try.pinned (OpenSpec.ofChange logTwoSpec)

/-- ITS FALSE NEIGHBOUR: 'it returns false'. Refute it at one input. -/
def logTwoWrong : ChangeSpec := { name := "logTwo", fn := fun _ => fun
  | [d1, d2] => { results := [.lit (.bool false)], args := [d1, d2] }
  | _ => none }
def LogTwoWrongFalsely : Prop := logTwoRow.holds Try.pinned (OpenSpec.ofChange logTwoWrong)

/-- 'porterlaw14.OraclePlays': WHATEVER THE INPUT: true; the input reads as it did. -/
def oraclePlaysSpec : ChangeSpec := { name := "oraclePlays", fn := fun _ => fun
  | [d1, d2] => { results := [.lit (.bool true)], args := [d1, d2] }
  | _ => none }
def oraclePlaysRow : OpenClaim := { program := "ytahojkpbjijckaa", sum := "d70734aed2127a2836b7994af1260d5c87ddd17191c6ef69c101e2fe86d26214", func := "porter/porterlaw14.OraclePlays", spec := "oraclePlays", unfollowed := true, recurses := true, apart := false }
def OraclePlaysSaid : Prop := oraclePlaysRow.holds Try.pinned (OpenSpec.ofChange oraclePlaysSpec)

/-- ITS FALSE NEIGHBOUR: 'it returns false'. Refute it at one input. -/
def oraclePlaysWrong : ChangeSpec := { name := "oraclePlays", fn := fun _ => fun
  | [d1, d2] => { results := [.lit (.bool false)], args := [d1, d2] }
  | _ => none }
def OraclePlaysWrongFalsely : Prop := oraclePlaysRow.holds Try.pinned (OpenSpec.ofChange oraclePlaysWrong)

/-- 'porterlaw14.OracleRises': WHATEVER THE INPUT: true; the input reads as it did. -/
def oracleRisesSpec : ChangeSpec := { name := "oracleRises", fn := fun _ => fun
  | [d1, d2] => { results := [.lit (.bool true)], args := [d1, d2] }
  | _ => none }
def oracleRisesRow : OpenClaim := { program := "ytahojkpbjijckaa", sum := "d70734aed2127a2836b7994af1260d5c87ddd17191c6ef69c101e2fe86d26214", func := "porter/porterlaw14.OracleRises", spec := "oracleRises", unfollowed := true, recurses := true, apart := false }
def OracleRisesSaid : Prop := oracleRisesRow.holds Try.pinned (OpenSpec.ofChange oracleRisesSpec)

/-- ITS FALSE NEIGHBOUR: 'it returns false'. Refute it at one input. -/
def oracleRisesWrong : ChangeSpec := { name := "oracleRises", fn := fun _ => fun
  | [d1, d2] => { results := [.lit (.bool false)], args := [d1, d2] }
  | _ => none }
def OracleRisesWrongFalsely : Prop := oracleRisesRow.holds Try.pinned (OpenSpec.ofChange oracleRisesWrong)

/-- 'porterlaw14.OracleFull': WHATEVER THE INPUT: true; the input reads as it did. -/
def oracleFullSpec : ChangeSpec := { name := "oracleFull", fn := fun _ => fun
  | [d1, d2] => { results := [.lit (.bool true)], args := [d1, d2] }
  | _ => none }
def oracleFullRow : OpenClaim := { program := "ytahojkpbjijckaa", sum := "d70734aed2127a2836b7994af1260d5c87ddd17191c6ef69c101e2fe86d26214", func := "porter/porterlaw14.OracleFull", spec := "oracleFull", unfollowed := true, recurses := true, apart := false }
def OracleFullSaid : Prop := oracleFullRow.holds Try.pinned (OpenSpec.ofChange oracleFullSpec)

/-- ITS FALSE NEIGHBOUR: 'it returns false'. Refute it at one input. -/
def oracleFullWrong : ChangeSpec := { name := "oracleFull", fn := fun _ => fun
  | [d1, d2] => { results := [.lit (.bool false)], args := [d1, d2] }
  | _ => none }
def OracleFullWrongFalsely : Prop := oracleFullRow.holds Try.pinned (OpenSpec.ofChange oracleFullWrong)

/-- 'portertop.WholeLogged': WHATEVER THE INPUT: true; the input reads as it did. -/
def wholeLoggedSpec : ChangeSpec := { name := "wholeLogged", fn := fun _ => fun
  | [d1, d2, d3] => { results := [.lit (.bool true)], args := [d1, d2, d3] }
  | _ => none }
def wholeLoggedRow : OpenClaim := { program := "ytahojkpbjijckaa", sum := "d70734aed2127a2836b7994af1260d5c87ddd17191c6ef69c101e2fe86d26214", func := "porter/portertop.WholeLogged", spec := "wholeLogged", unfollowed := true, recurses := true, apart := false }
def WholeLoggedSaid : Prop := wholeLoggedRow.holds Try.pinned (OpenSpec.ofChange wholeLoggedSpec)

/-- ITS FALSE NEIGHBOUR: 'it returns false'. Refute it at one input. -/
def wholeLoggedWrong : ChangeSpec := { name := "wholeLogged", fn := fun _ => fun
  | [d1, d2, d3] => { results := [.lit (.bool false)], args := [d1, d2, d3] }
  | _ => none }
def WholeLoggedWrongFalsely : Prop := wholeLoggedRow.holds Try.pinned (OpenSpec.ofChange wholeLoggedWrong)

/-- 'portertop.WholeSent': WHATEVER THE INPUT: true; the input reads as it did. -/
def wholeSentSpec : ChangeSpec := { name := "wholeSent", fn := fun _ => fun
  | [d1, d2, d3] => { results := [.lit (.bool true)], args := [d1, d2, d3] }
  | _ => none }
def wholeSentRow : OpenClaim := { program := "ytahojkpbjijckaa", sum := "d70734aed2127a2836b7994af1260d5c87ddd17191c6ef69c101e2fe86d26214", func := "porter/portertop.WholeSent", spec := "wholeSent", unfollowed := true, recurses := true, apart := false }
def WholeSentSaid : Prop := wholeSentRow.holds Try.pinned (OpenSpec.ofChange wholeSentSpec)

/-- ITS FALSE NEIGHBOUR: 'it returns false'. Refute it at one input. -/
def wholeSentWrong : ChangeSpec := { name := "wholeSent", fn := fun _ => fun
  | [d1, d2, d3] => { results := [.lit (.bool false)], args := [d1, d2, d3] }
  | _ => none }
def WholeSentWrongFalsely : Prop := wholeSentRow.holds Try.pinned (OpenSpec.ofChange wholeSentWrong)

/- THE SECOND FORM. 'bulk': how many values and letters a reading holds, each counted each time it is reached (what is shared counts as often as it is met; a slice's spare places count too). A statement '..UptoSaid' is the law's where the arguments, and the package variables that the reading takes, are together of bulk at most 1048576: NARROWER than '..Said'. Prove '..Said' where nothing that the law and all that it calls make is longer than what came in: it says more and counts as full. Else prove '..UptoSaid'. A law counts once. -/
mutual
def uptoBulk {H : Type} : DataW H → Nat
  | .lit (.string bytes) => bytes.length + 1
  | .lit _ => 1
  | .nil => 1
  | .ptr d => uptoBulk d + 1
  | .slice elems spare => uptoBulkAll elems + uptoBulkAll spare + 1
  | .agg parts => uptoBulkAll parts + 1
  | .iface _ d => uptoBulk d + 1
  | .map entries => uptoBulkEntries entries + 1
  | .held _ => 1
def uptoBulkAll {H : Type} : List (DataW H) → Nat
  | [] => 0
  | d :: r => uptoBulk d + uptoBulkAll r
def uptoBulkEntries {H : Type} : List (Lit × DataW H) → Nat
  | [] => 0
  | x :: r => uptoBulkEntry x + uptoBulkEntries r
def uptoBulkEntry {H : Type} : Lit × DataW H → Nat
  | (.string bytes, d) => bytes.length + uptoBulk d + 1
  | (_, d) => uptoBulk d + 1
 end
def uptoSmall : (H : Type) → List (DataW H) → Bool := fun _ ds => decide (uptoBulkAll ds ≤ 1048576)
def OpenSpec.upto (s : _root_.Go.ChangeSpec) : _root_.Go.OpenSpec := { _root_.Go.OpenSpec.ofChange s with cond := some uptoSmall }

/-- 'porterlaw04.LogPrefix', WHERE WHAT IT READS IS OF BULK AT MOST 1048576: true; the input reads as it did. -/
def logPrefixUptoRow : OpenClaim := { program := "ytahojkpbjijckaa", sum := "d70734aed2127a2836b7994af1260d5c87ddd17191c6ef69c101e2fe86d26214", func := "porter/porterlaw04.LogPrefix", spec := "logPrefix", unfollowed := true, recurses := true, apart := false, narrowed := true }
def LogPrefixUptoSaid : Prop := logPrefixUptoRow.holds Try.pinned (OpenSpec.upto logPrefixSpec)

/-- 'porterlaw04.LogCut', WHERE WHAT IT READS IS OF BULK AT MOST 1048576: true; the input reads as it did. -/
def logCutUptoRow : OpenClaim := { program := "ytahojkpbjijckaa", sum := "d70734aed2127a2836b7994af1260d5c87ddd17191c6ef69c101e2fe86d26214", func := "porter/porterlaw04.LogCut", spec := "logCut", unfollowed := true, recurses := true, apart := false, narrowed := true }
def LogCutUptoSaid : Prop := logCutUptoRow.holds Try.pinned (OpenSpec.upto logCutSpec)

/-- 'porterlaw04.LogPlays', WHERE WHAT IT READS IS OF BULK AT MOST 1048576: true; the input reads as it did. -/
def logPlaysUptoRow : OpenClaim := { program := "ytahojkpbjijckaa", sum := "d70734aed2127a2836b7994af1260d5c87ddd17191c6ef69c101e2fe86d26214", func := "porter/porterlaw04.LogPlays", spec := "logPlays", unfollowed := true, recurses := true, apart := false, narrowed := true }
def LogPlaysUptoSaid : Prop := logPlaysUptoRow.holds Try.pinned (OpenSpec.upto logPlaysSpec)

/-- 'porterlaw04.LogAgain', WHERE WHAT IT READS IS OF BULK AT MOST 1048576: true; the input reads as it did. -/
def logAgainUptoRow : OpenClaim := { program := "ytahojkpbjijckaa", sum := "d70734aed2127a2836b7994af1260d5c87ddd17191c6ef69c101e2fe86d26214", func := "porter/porterlaw04.LogAgain", spec := "logAgain", unfollowed := true, recurses := true, apart := false, narrowed := true }
def LogAgainUptoSaid : Prop := logAgainUptoRow.holds Try.pinned (OpenSpec.upto logAgainSpec)

/-- 'porterlaw04.LogTwo', WHERE WHAT IT READS IS OF BULK AT MOST 1048576: true; the input reads as it did. -/
def logTwoUptoRow : OpenClaim := { program := "ytahojkpbjijckaa", sum := "d70734aed2127a2836b7994af1260d5c87ddd17191c6ef69c101e2fe86d26214", func := "porter/porterlaw04.LogTwo", spec := "logTwo", unfollowed := true, recurses := true, apart := false, narrowed := true }
def LogTwoUptoSaid : Prop := logTwoUptoRow.holds Try.pinned (OpenSpec.upto logTwoSpec)

/-- 'porterlaw14.OraclePlays', WHERE WHAT IT READS IS OF BULK AT MOST 1048576: true; the input reads as it did. -/
def oraclePlaysUptoRow : OpenClaim := { program := "ytahojkpbjijckaa", sum := "d70734aed2127a2836b7994af1260d5c87ddd17191c6ef69c101e2fe86d26214", func := "porter/porterlaw14.OraclePlays", spec := "oraclePlays", unfollowed := true, recurses := true, apart := false, narrowed := true }
def OraclePlaysUptoSaid : Prop := oraclePlaysUptoRow.holds Try.pinned (OpenSpec.upto oraclePlaysSpec)

/-- 'porterlaw14.OracleRises', WHERE WHAT IT READS IS OF BULK AT MOST 1048576: true; the input reads as it did. -/
def oracleRisesUptoRow : OpenClaim := { program := "ytahojkpbjijckaa", sum := "d70734aed2127a2836b7994af1260d5c87ddd17191c6ef69c101e2fe86d26214", func := "porter/porterlaw14.OracleRises", spec := "oracleRises", unfollowed := true, recurses := true, apart := false, narrowed := true }
def OracleRisesUptoSaid : Prop := oracleRisesUptoRow.holds Try.pinned (OpenSpec.upto oracleRisesSpec)

/-- 'porterlaw14.OracleFull', WHERE WHAT IT READS IS OF BULK AT MOST 1048576: true; the input reads as it did. -/
def oracleFullUptoRow : OpenClaim := { program := "ytahojkpbjijckaa", sum := "d70734aed2127a2836b7994af1260d5c87ddd17191c6ef69c101e2fe86d26214", func := "porter/porterlaw14.OracleFull", spec := "oracleFull", unfollowed := true, recurses := true, apart := false, narrowed := true }
def OracleFullUptoSaid : Prop := oracleFullUptoRow.holds Try.pinned (OpenSpec.upto oracleFullSpec)

/-- 'portertop.WholeLogged', WHERE WHAT IT READS IS OF BULK AT MOST 1048576: true; the input reads as it did. -/
def wholeLoggedUptoRow : OpenClaim := { program := "ytahojkpbjijckaa", sum := "d70734aed2127a2836b7994af1260d5c87ddd17191c6ef69c101e2fe86d26214", func := "porter/portertop.WholeLogged", spec := "wholeLogged", unfollowed := true, recurses := true, apart := false, narrowed := true }
def WholeLoggedUptoSaid : Prop := wholeLoggedUptoRow.holds Try.pinned (OpenSpec.upto wholeLoggedSpec)

/-- 'portertop.WholeSent', WHERE WHAT IT READS IS OF BULK AT MOST 1048576: true; the input reads as it did. -/
def wholeSentUptoRow : OpenClaim := { program := "ytahojkpbjijckaa", sum := "d70734aed2127a2836b7994af1260d5c87ddd17191c6ef69c101e2fe86d26214", func := "porter/portertop.WholeSent", spec := "wholeSent", unfollowed := true, recurses := true, apart := false, narrowed := true }
def WholeSentUptoSaid : Prop := wholeSentUptoRow.holds Try.pinned (OpenSpec.upto wholeSentSpec)

end Rows
end Go.Proofs.Ytahojkpbjijckaa
