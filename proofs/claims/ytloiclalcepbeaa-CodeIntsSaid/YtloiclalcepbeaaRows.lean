/-
  No cell of these rows narrows 'for every input' (looked for: loops, veiled, ifaces, maps, wideKeys, modest, calm, conditions, laid).
  DERIVED. THE GIVEN ROWS OF THIS SEAT. 12 by the template 'for every input the law returns true; each argument reads behind the call as it read before'; 0 by the template 'total and deterministic' (their statements: YtloiclalcepbeaaTotals.lean).
  GIVEN WITH THE SEED: the statements are not yours to turn. If you find one false, say at which input.
  Laid BY PROGRAM, IN A SANDBOX (cutbox-rows.mjs): the forced cells as the released guide's own fill.sh prints them over the translation f890c88da969555b… (all of the seat's roots in one cut). By AI agents, Wed Nov 11 2026. No macro, syntax, notation, axiom, sorry.
-/
import Derived.Test.YtloiclalcepbeaaChecked
import GoSem.Claim
import GoSem.ClaimJoined
import GoSem.ClaimMapViews
import Derived.JoinedTies
import Derived.KernelRfl
namespace Go.Proofs.Ytloiclalcepbeaa
/- THE CELL 'sum', in the pinned program and in every row, IS THE sha256 OF THE DUMP (.gsa) THAT YtloiclalcepbeaaProg.lean LOADS. Nothing in Lean hashes anything: it is a label: what it is worth is what the hold of that sum in a sandbox is worth. -/
noncomputable def Try.pinned : Pinned := { name := "ytloiclalcepbeaa", sum := "f890c88da969555b36c3a3920baa585bf50279c2ae26c66f061e388e44a9cd0d", checked := Try.checked }
namespace Rows
def none {H : Type} : Left H := { results := [], args := [] }

/-- 'porterlaw23.TokenReads': WHATEVER THE INPUT: true; the input reads as it did. -/
def tokenReadsSpec : ChangeSpec := { name := "tokenReads", fn := fun _ => fun
  | [d1, d2] => { results := [.lit (.bool true)], args := [d1, d2] }
  | _ => none }
def tokenReadsRow : OpenClaim := { program := "ytloiclalcepbeaa", sum := "f890c88da969555b36c3a3920baa585bf50279c2ae26c66f061e388e44a9cd0d", func := "porter/porterlaw23.TokenReads", spec := "tokenReads", inPlace := ["internal/abi.NoEscape", "internal/bytealg.IndexByteString"], recurses := true, apart := false }
def TokenReadsSaid : Prop := tokenReadsRow.holds Try.pinned (OpenSpec.ofChange tokenReadsSpec)

/-- ITS FALSE NEIGHBOUR: 'it returns false'. Refute it at one input. -/
def tokenReadsWrong : ChangeSpec := { name := "tokenReads", fn := fun _ => fun
  | [d1, d2] => { results := [.lit (.bool false)], args := [d1, d2] }
  | _ => none }
def TokenReadsWrongFalsely : Prop := tokenReadsRow.holds Try.pinned (OpenSpec.ofChange tokenReadsWrong)

/-- 'porterlaw23.TokenBack': WHATEVER THE INPUT: true; the input reads as it did. -/
def tokenBackSpec : ChangeSpec := { name := "tokenBack", fn := fun _ => fun
  | [d1, d2] => { results := [.lit (.bool true)], args := [d1, d2] }
  | _ => none }
def tokenBackRow : OpenClaim := { program := "ytloiclalcepbeaa", sum := "f890c88da969555b36c3a3920baa585bf50279c2ae26c66f061e388e44a9cd0d", func := "porter/porterlaw23.TokenBack", spec := "tokenBack", inPlace := ["internal/abi.NoEscape", "internal/bytealg.IndexByteString"], apart := false }
def TokenBackSaid : Prop := tokenBackRow.holds Try.pinned (OpenSpec.ofChange tokenBackSpec)

/-- ITS FALSE NEIGHBOUR: 'it returns false'. Refute it at one input. -/
def tokenBackWrong : ChangeSpec := { name := "tokenBack", fn := fun _ => fun
  | [d1, d2] => { results := [.lit (.bool false)], args := [d1, d2] }
  | _ => none }
def TokenBackWrongFalsely : Prop := tokenBackRow.holds Try.pinned (OpenSpec.ofChange tokenBackWrong)

/-- 'porterlaw23.TokenTells': WHATEVER THE INPUT: true; the input reads as it did. -/
def tokenTellsSpec : ChangeSpec := { name := "tokenTells", fn := fun _ => fun
  | [d1, d2, d3] => { results := [.lit (.bool true)], args := [d1, d2, d3] }
  | _ => none }
def tokenTellsRow : OpenClaim := { program := "ytloiclalcepbeaa", sum := "f890c88da969555b36c3a3920baa585bf50279c2ae26c66f061e388e44a9cd0d", func := "porter/porterlaw23.TokenTells", spec := "tokenTells", inPlace := ["internal/abi.NoEscape", "internal/bytealg.IndexByteString"], apart := false }
def TokenTellsSaid : Prop := tokenTellsRow.holds Try.pinned (OpenSpec.ofChange tokenTellsSpec)

/-- ITS FALSE NEIGHBOUR: 'it returns false'. Refute it at one input. -/
def tokenTellsWrong : ChangeSpec := { name := "tokenTells", fn := fun _ => fun
  | [d1, d2, d3] => { results := [.lit (.bool false)], args := [d1, d2, d3] }
  | _ => none }
def TokenTellsWrongFalsely : Prop := tokenTellsRow.holds Try.pinned (OpenSpec.ofChange tokenTellsWrong)

/-- 'porterlaw23.TokenOrder': WHATEVER THE INPUT: true; the input reads as it did. -/
def tokenOrderSpec : ChangeSpec := { name := "tokenOrder", fn := fun _ => fun
  | [d1, d2] => { results := [.lit (.bool true)], args := [d1, d2] }
  | _ => none }
def tokenOrderRow : OpenClaim := { program := "ytloiclalcepbeaa", sum := "f890c88da969555b36c3a3920baa585bf50279c2ae26c66f061e388e44a9cd0d", func := "porter/porterlaw23.TokenOrder", spec := "tokenOrder", inPlace := ["internal/abi.NoEscape", "internal/bytealg.IndexByteString"], apart := false }
def TokenOrderSaid : Prop := tokenOrderRow.holds Try.pinned (OpenSpec.ofChange tokenOrderSpec)

/-- ITS FALSE NEIGHBOUR: 'it returns false'. Refute it at one input. -/
def tokenOrderWrong : ChangeSpec := { name := "tokenOrder", fn := fun _ => fun
  | [d1, d2] => { results := [.lit (.bool false)], args := [d1, d2] }
  | _ => none }
def TokenOrderWrongFalsely : Prop := tokenOrderRow.holds Try.pinned (OpenSpec.ofChange tokenOrderWrong)

/-- 'porterlaw23.TokenLater': WHATEVER THE INPUT: true; the input reads as it did. -/
def tokenLaterSpec : ChangeSpec := { name := "tokenLater", fn := fun _ => fun
  | [d1, d2] => { results := [.lit (.bool true)], args := [d1, d2] }
  | _ => none }
def tokenLaterRow : OpenClaim := { program := "ytloiclalcepbeaa", sum := "f890c88da969555b36c3a3920baa585bf50279c2ae26c66f061e388e44a9cd0d", func := "porter/porterlaw23.TokenLater", spec := "tokenLater", inPlace := ["internal/abi.NoEscape", "internal/bytealg.IndexByteString"], apart := false }
def TokenLaterSaid : Prop := tokenLaterRow.holds Try.pinned (OpenSpec.ofChange tokenLaterSpec)

/-- ITS FALSE NEIGHBOUR: 'it returns false'. Refute it at one input. -/
def tokenLaterWrong : ChangeSpec := { name := "tokenLater", fn := fun _ => fun
  | [d1, d2] => { results := [.lit (.bool false)], args := [d1, d2] }
  | _ => none }
def TokenLaterWrongFalsely : Prop := tokenLaterRow.holds Try.pinned (OpenSpec.ofChange tokenLaterWrong)

/-- 'porterlaw02.CodeInts': WHATEVER THE INPUT: true; the input reads as it did. -/
def codeIntsSpec : ChangeSpec := { name := "codeInts", fn := fun _ => fun
  | [d1, d2, d3] => { results := [.lit (.bool true)], args := [d1, d2, d3] }
  | _ => none }
def codeIntsRow : OpenClaim := { program := "ytloiclalcepbeaa", sum := "f890c88da969555b36c3a3920baa585bf50279c2ae26c66f061e388e44a9cd0d", func := "porter/porterlaw02.CodeInts", spec := "codeInts", unfollowed := true, recurses := true, apart := false }
def CodeIntsSaid : Prop := codeIntsRow.holds Try.pinned (OpenSpec.ofChange codeIntsSpec)

/-- ITS FALSE NEIGHBOUR: 'it returns false'. Refute it at one input. -/
def codeIntsWrong : ChangeSpec := { name := "codeInts", fn := fun _ => fun
  | [d1, d2, d3] => { results := [.lit (.bool false)], args := [d1, d2, d3] }
  | _ => none }
def CodeIntsWrongFalsely : Prop := codeIntsRow.holds Try.pinned (OpenSpec.ofChange codeIntsWrong)

/-- 'porterlaw02.CodeReads': WHATEVER THE INPUT: true; the input reads as it did. -/
def codeReadsSpec : ChangeSpec := { name := "codeReads", fn := fun _ => fun
  | [d1, d2] => { results := [.lit (.bool true)], args := [d1, d2] }
  | _ => none }
def codeReadsRow : OpenClaim := { program := "ytloiclalcepbeaa", sum := "f890c88da969555b36c3a3920baa585bf50279c2ae26c66f061e388e44a9cd0d", func := "porter/porterlaw02.CodeReads", spec := "codeReads", unfollowed := true, recurses := true, apart := false }
def CodeReadsSaid : Prop := codeReadsRow.holds Try.pinned (OpenSpec.ofChange codeReadsSpec)

/-- ITS FALSE NEIGHBOUR: 'it returns false'. Refute it at one input. -/
def codeReadsWrong : ChangeSpec := { name := "codeReads", fn := fun _ => fun
  | [d1, d2] => { results := [.lit (.bool false)], args := [d1, d2] }
  | _ => none }
def CodeReadsWrongFalsely : Prop := codeReadsRow.holds Try.pinned (OpenSpec.ofChange codeReadsWrong)

/-- 'porterlaw02.CodeBack': WHATEVER THE INPUT: true; the input reads as it did. -/
def codeBackSpec : ChangeSpec := { name := "codeBack", fn := fun _ => fun
  | [d1, d2] => { results := [.lit (.bool true)], args := [d1, d2] }
  | _ => none }
def codeBackRow : OpenClaim := { program := "ytloiclalcepbeaa", sum := "f890c88da969555b36c3a3920baa585bf50279c2ae26c66f061e388e44a9cd0d", func := "porter/porterlaw02.CodeBack", spec := "codeBack", unfollowed := true, recurses := true, apart := false }
def CodeBackSaid : Prop := codeBackRow.holds Try.pinned (OpenSpec.ofChange codeBackSpec)

/-- ITS FALSE NEIGHBOUR: 'it returns false'. Refute it at one input. -/
def codeBackWrong : ChangeSpec := { name := "codeBack", fn := fun _ => fun
  | [d1, d2] => { results := [.lit (.bool false)], args := [d1, d2] }
  | _ => none }
def CodeBackWrongFalsely : Prop := codeBackRow.holds Try.pinned (OpenSpec.ofChange codeBackWrong)

/-- 'porterlaw02.CodeCuts': WHATEVER THE INPUT: true; the input reads as it did. -/
def codeCutsSpec : ChangeSpec := { name := "codeCuts", fn := fun _ => fun
  | [d1, d2, d3] => { results := [.lit (.bool true)], args := [d1, d2, d3] }
  | _ => none }
def codeCutsRow : OpenClaim := { program := "ytloiclalcepbeaa", sum := "f890c88da969555b36c3a3920baa585bf50279c2ae26c66f061e388e44a9cd0d", func := "porter/porterlaw02.CodeCuts", spec := "codeCuts", unfollowed := true, recurses := true, apart := false }
def CodeCutsSaid : Prop := codeCutsRow.holds Try.pinned (OpenSpec.ofChange codeCutsSpec)

/-- ITS FALSE NEIGHBOUR: 'it returns false'. Refute it at one input. -/
def codeCutsWrong : ChangeSpec := { name := "codeCuts", fn := fun _ => fun
  | [d1, d2, d3] => { results := [.lit (.bool false)], args := [d1, d2, d3] }
  | _ => none }
def CodeCutsWrongFalsely : Prop := codeCutsRow.holds Try.pinned (OpenSpec.ofChange codeCutsWrong)

/-- 'porterlaw02.CodeKeeps': WHATEVER THE INPUT: true; the input reads as it did. -/
def codeKeepsSpec : ChangeSpec := { name := "codeKeeps", fn := fun _ => fun
  | [d1, d2] => { results := [.lit (.bool true)], args := [d1, d2] }
  | _ => none }
def codeKeepsRow : OpenClaim := { program := "ytloiclalcepbeaa", sum := "f890c88da969555b36c3a3920baa585bf50279c2ae26c66f061e388e44a9cd0d", func := "porter/porterlaw02.CodeKeeps", spec := "codeKeeps", unfollowed := true, recurses := true, apart := false }
def CodeKeepsSaid : Prop := codeKeepsRow.holds Try.pinned (OpenSpec.ofChange codeKeepsSpec)

/-- ITS FALSE NEIGHBOUR: 'it returns false'. Refute it at one input. -/
def codeKeepsWrong : ChangeSpec := { name := "codeKeeps", fn := fun _ => fun
  | [d1, d2] => { results := [.lit (.bool false)], args := [d1, d2] }
  | _ => none }
def CodeKeepsWrongFalsely : Prop := codeKeepsRow.holds Try.pinned (OpenSpec.ofChange codeKeepsWrong)

/-- 'porterlaw02.CodeRow': WHATEVER THE INPUT: true; the input reads as it did. -/
def codeRowSpec : ChangeSpec := { name := "codeRow", fn := fun _ => fun
  | [d] => { results := [.lit (.bool true)], args := [d] }
  | _ => none }
def codeRowRow : OpenClaim := { program := "ytloiclalcepbeaa", sum := "f890c88da969555b36c3a3920baa585bf50279c2ae26c66f061e388e44a9cd0d", func := "porter/porterlaw02.CodeRow", spec := "codeRow", unfollowed := true, recurses := true, apart := false }
def CodeRowSaid : Prop := codeRowRow.holds Try.pinned (OpenSpec.ofChange codeRowSpec)

/-- ITS FALSE NEIGHBOUR: 'it returns false'. Refute it at one input. -/
def codeRowWrong : ChangeSpec := { name := "codeRow", fn := fun _ => fun
  | [d] => { results := [.lit (.bool false)], args := [d] }
  | _ => none }
def CodeRowWrongFalsely : Prop := codeRowRow.holds Try.pinned (OpenSpec.ofChange codeRowWrong)

/-- 'porterlaw02.CodeApart': WHATEVER THE INPUT: true; the input reads as it did. -/
def codeApartSpec : ChangeSpec := { name := "codeApart", fn := fun _ => fun
  | [d1, d2] => { results := [.lit (.bool true)], args := [d1, d2] }
  | _ => none }
def codeApartRow : OpenClaim := { program := "ytloiclalcepbeaa", sum := "f890c88da969555b36c3a3920baa585bf50279c2ae26c66f061e388e44a9cd0d", func := "porter/porterlaw02.CodeApart", spec := "codeApart", unfollowed := true, recurses := true, apart := false }
def CodeApartSaid : Prop := codeApartRow.holds Try.pinned (OpenSpec.ofChange codeApartSpec)

/-- ITS FALSE NEIGHBOUR: 'it returns false'. Refute it at one input. -/
def codeApartWrong : ChangeSpec := { name := "codeApart", fn := fun _ => fun
  | [d1, d2] => { results := [.lit (.bool false)], args := [d1, d2] }
  | _ => none }
def CodeApartWrongFalsely : Prop := codeApartRow.holds Try.pinned (OpenSpec.ofChange codeApartWrong)

/- THE SECOND FORM. 'bulk': how many values and letters a reading holds, each counted each time it is reached (what is shared counts as often as it is met; a slice's spare places count too). A statement '..UptoSaid' is the law's where the arguments, and the package variables that the reading takes, are together of bulk at most 1048576: NARROWER than '..Said'. Prove '..Said' where nothing that the law and all that it calls make is longer than what came in: it says more and counts as full. Else prove '..UptoSaid'. A law counts once. -/
mutual
def uptoBulk {H : Type} : DataW H → Nat
  | .lit (.string bytes) => bytes.length + 1
  | .lit _ => 1
  | .nil => 1
  | .ptr d => uptoBulk d + 1
  | .slice elems spare => uptoBulkAll elems + uptoBulkAll spare + 1
  | .agg parts => uptoBulkAll parts + 1
  | .iface _ d => uptoBulk d + 1
  | .map entries => uptoBulkEntries entries + 1
  | .held _ => 1
def uptoBulkAll {H : Type} : List (DataW H) → Nat
  | [] => 0
  | d :: r => uptoBulk d + uptoBulkAll r
def uptoBulkEntries {H : Type} : List (Lit × DataW H) → Nat
  | [] => 0
  | x :: r => uptoBulkEntry x + uptoBulkEntries r
def uptoBulkEntry {H : Type} : Lit × DataW H → Nat
  | (.string bytes, d) => bytes.length + uptoBulk d + 1
  | (_, d) => uptoBulk d + 1
 end
def uptoSmall : (H : Type) → List (DataW H) → Bool := fun _ ds => decide (uptoBulkAll ds ≤ 1048576)
def OpenSpec.upto (s : _root_.Go.ChangeSpec) : _root_.Go.OpenSpec := { _root_.Go.OpenSpec.ofChange s with cond := some uptoSmall }

/-- 'porterlaw23.TokenReads', WHERE WHAT IT READS IS OF BULK AT MOST 1048576: true; the input reads as it did. -/
def tokenReadsUptoRow : OpenClaim := { program := "ytloiclalcepbeaa", sum := "f890c88da969555b36c3a3920baa585bf50279c2ae26c66f061e388e44a9cd0d", func := "porter/porterlaw23.TokenReads", spec := "tokenReads", inPlace := ["internal/abi.NoEscape", "internal/bytealg.IndexByteString"], recurses := true, apart := false, narrowed := true }
def TokenReadsUptoSaid : Prop := tokenReadsUptoRow.holds Try.pinned (OpenSpec.upto tokenReadsSpec)

/-- 'porterlaw23.TokenBack', WHERE WHAT IT READS IS OF BULK AT MOST 1048576: true; the input reads as it did. -/
def tokenBackUptoRow : OpenClaim := { program := "ytloiclalcepbeaa", sum := "f890c88da969555b36c3a3920baa585bf50279c2ae26c66f061e388e44a9cd0d", func := "porter/porterlaw23.TokenBack", spec := "tokenBack", inPlace := ["internal/abi.NoEscape", "internal/bytealg.IndexByteString"], apart := false, narrowed := true }
def TokenBackUptoSaid : Prop := tokenBackUptoRow.holds Try.pinned (OpenSpec.upto tokenBackSpec)

/-- 'porterlaw23.TokenTells', WHERE WHAT IT READS IS OF BULK AT MOST 1048576: true; the input reads as it did. -/
def tokenTellsUptoRow : OpenClaim := { program := "ytloiclalcepbeaa", sum := "f890c88da969555b36c3a3920baa585bf50279c2ae26c66f061e388e44a9cd0d", func := "porter/porterlaw23.TokenTells", spec := "tokenTells", inPlace := ["internal/abi.NoEscape", "internal/bytealg.IndexByteString"], apart := false, narrowed := true }
def TokenTellsUptoSaid : Prop := tokenTellsUptoRow.holds Try.pinned (OpenSpec.upto tokenTellsSpec)

/-- 'porterlaw23.TokenOrder', WHERE WHAT IT READS IS OF BULK AT MOST 1048576: true; the input reads as it did. -/
def tokenOrderUptoRow : OpenClaim := { program := "ytloiclalcepbeaa", sum := "f890c88da969555b36c3a3920baa585bf50279c2ae26c66f061e388e44a9cd0d", func := "porter/porterlaw23.TokenOrder", spec := "tokenOrder", inPlace := ["internal/abi.NoEscape", "internal/bytealg.IndexByteString"], apart := false, narrowed := true }
def TokenOrderUptoSaid : Prop := tokenOrderUptoRow.holds Try.pinned (OpenSpec.upto tokenOrderSpec)

/-- 'porterlaw23.TokenLater', WHERE WHAT IT READS IS OF BULK AT MOST 1048576: true; the input reads as it did. -/
def tokenLaterUptoRow : OpenClaim := { program := "ytloiclalcepbeaa", sum := "f890c88da969555b36c3a3920baa585bf50279c2ae26c66f061e388e44a9cd0d", func := "porter/porterlaw23.TokenLater", spec := "tokenLater", inPlace := ["internal/abi.NoEscape", "internal/bytealg.IndexByteString"], apart := false, narrowed := true }
def TokenLaterUptoSaid : Prop := tokenLaterUptoRow.holds Try.pinned (OpenSpec.upto tokenLaterSpec)

/-- 'porterlaw02.CodeInts', WHERE WHAT IT READS IS OF BULK AT MOST 1048576: true; the input reads as it did. -/
def codeIntsUptoRow : OpenClaim := { program := "ytloiclalcepbeaa", sum := "f890c88da969555b36c3a3920baa585bf50279c2ae26c66f061e388e44a9cd0d", func := "porter/porterlaw02.CodeInts", spec := "codeInts", unfollowed := true, recurses := true, apart := false, narrowed := true }
def CodeIntsUptoSaid : Prop := codeIntsUptoRow.holds Try.pinned (OpenSpec.upto codeIntsSpec)

/-- 'porterlaw02.CodeReads', WHERE WHAT IT READS IS OF BULK AT MOST 1048576: true; the input reads as it did. -/
def codeReadsUptoRow : OpenClaim := { program := "ytloiclalcepbeaa", sum := "f890c88da969555b36c3a3920baa585bf50279c2ae26c66f061e388e44a9cd0d", func := "porter/porterlaw02.CodeReads", spec := "codeReads", unfollowed := true, recurses := true, apart := false, narrowed := true }
def CodeReadsUptoSaid : Prop := codeReadsUptoRow.holds Try.pinned (OpenSpec.upto codeReadsSpec)

/-- 'porterlaw02.CodeBack', WHERE WHAT IT READS IS OF BULK AT MOST 1048576: true; the input reads as it did. -/
def codeBackUptoRow : OpenClaim := { program := "ytloiclalcepbeaa", sum := "f890c88da969555b36c3a3920baa585bf50279c2ae26c66f061e388e44a9cd0d", func := "porter/porterlaw02.CodeBack", spec := "codeBack", unfollowed := true, recurses := true, apart := false, narrowed := true }
def CodeBackUptoSaid : Prop := codeBackUptoRow.holds Try.pinned (OpenSpec.upto codeBackSpec)

/-- 'porterlaw02.CodeCuts', WHERE WHAT IT READS IS OF BULK AT MOST 1048576: true; the input reads as it did. -/
def codeCutsUptoRow : OpenClaim := { program := "ytloiclalcepbeaa", sum := "f890c88da969555b36c3a3920baa585bf50279c2ae26c66f061e388e44a9cd0d", func := "porter/porterlaw02.CodeCuts", spec := "codeCuts", unfollowed := true, recurses := true, apart := false, narrowed := true }
def CodeCutsUptoSaid : Prop := codeCutsUptoRow.holds Try.pinned (OpenSpec.upto codeCutsSpec)

/-- 'porterlaw02.CodeKeeps', WHERE WHAT IT READS IS OF BULK AT MOST 1048576: true; the input reads as it did. -/
def codeKeepsUptoRow : OpenClaim := { program := "ytloiclalcepbeaa", sum := "f890c88da969555b36c3a3920baa585bf50279c2ae26c66f061e388e44a9cd0d", func := "porter/porterlaw02.CodeKeeps", spec := "codeKeeps", unfollowed := true, recurses := true, apart := false, narrowed := true }
def CodeKeepsUptoSaid : Prop := codeKeepsUptoRow.holds Try.pinned (OpenSpec.upto codeKeepsSpec)

/-- 'porterlaw02.CodeRow', WHERE WHAT IT READS IS OF BULK AT MOST 1048576: true; the input reads as it did. -/
def codeRowUptoRow : OpenClaim := { program := "ytloiclalcepbeaa", sum := "f890c88da969555b36c3a3920baa585bf50279c2ae26c66f061e388e44a9cd0d", func := "porter/porterlaw02.CodeRow", spec := "codeRow", unfollowed := true, recurses := true, apart := false, narrowed := true }
def CodeRowUptoSaid : Prop := codeRowUptoRow.holds Try.pinned (OpenSpec.upto codeRowSpec)

/-- 'porterlaw02.CodeApart', WHERE WHAT IT READS IS OF BULK AT MOST 1048576: true; the input reads as it did. -/
def codeApartUptoRow : OpenClaim := { program := "ytloiclalcepbeaa", sum := "f890c88da969555b36c3a3920baa585bf50279c2ae26c66f061e388e44a9cd0d", func := "porter/porterlaw02.CodeApart", spec := "codeApart", unfollowed := true, recurses := true, apart := false, narrowed := true }
def CodeApartUptoSaid : Prop := codeApartUptoRow.holds Try.pinned (OpenSpec.upto codeApartSpec)

end Rows
end Go.Proofs.Ytloiclalcepbeaa
