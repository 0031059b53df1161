/-
  No cell of these rows narrows 'for every input' (looked for: loops, veiled, ifaces, maps, wideKeys, modest, calm, conditions, laid).
  DERIVED. THE GIVEN ROWS OF THIS SEAT. 7 by the template 'for every input the law returns true; each argument reads behind the call as it read before'; 0 by the template 'total and deterministic' (their statements: YtgdkikkjaofbfaaTotals.lean).
  GIVEN WITH THE SEED: the statements are not yours to turn. If you find one false, say at which input.
  Laid BY PROGRAM, IN A SANDBOX (cutbox-rows.mjs): the forced cells as the released guide's own fill.sh prints them over the translation ce515e0ccbb5859b… (all of the seat's roots in one cut). By AI agents, Wed Nov 11 2026. No macro, syntax, notation, axiom, sorry.
-/
import Derived.Test.YtgdkikkjaofbfaaChecked
import GoSem.Claim
import GoSem.ClaimJoined
import GoSem.ClaimMapViews
import Derived.JoinedTies
import Derived.KernelRfl
namespace Go.Proofs.Ytgdkikkjaofbfaa
/- THE CELL 'sum', in the pinned program and in every row, IS THE sha256 OF THE DUMP (.gsa) THAT YtgdkikkjaofbfaaProg.lean LOADS. Nothing in Lean hashes anything: it is a label: what it is worth is what the hold of that sum in a sandbox is worth. -/
noncomputable def Try.pinned : Pinned := { name := "ytgdkikkjaofbfaa", sum := "ce515e0ccbb5859b4ee5a6c8df2f5dca6ed5f12296cbfb28c72971f41c1af0f2", checked := Try.checked }
namespace Rows
def none {H : Type} : Left H := { results := [], args := [] }

/-- 'screelaw11.TableWrites': WHATEVER THE INPUT: true; the input reads as it did. -/
def tableWritesSpec : ChangeSpec := { name := "tableWrites", fn := fun _ => fun
  | [d] => { results := [.lit (.bool true)], args := [d] }
  | _ => none }
def tableWritesRow : OpenClaim := { program := "ytgdkikkjaofbfaa", sum := "ce515e0ccbb5859b4ee5a6c8df2f5dca6ed5f12296cbfb28c72971f41c1af0f2", func := "scree/screelaw11.TableWrites", spec := "tableWrites", inPlace := ["internal/abi.NoEscape"], unfollowed := true, recurses := true, apart := false }
def TableWritesSaid : Prop := tableWritesRow.holds Try.pinned (OpenSpec.ofChange tableWritesSpec)

/-- ITS FALSE NEIGHBOUR: 'it returns false'. Refute it at one input. -/
def tableWritesWrong : ChangeSpec := { name := "tableWrites", fn := fun _ => fun
  | [d] => { results := [.lit (.bool false)], args := [d] }
  | _ => none }
def TableWritesWrongFalsely : Prop := tableWritesRow.holds Try.pinned (OpenSpec.ofChange tableWritesWrong)

/-- 'screelaw11.TableReads': WHATEVER THE INPUT: true; the input reads as it did. -/
def tableReadsSpec : ChangeSpec := { name := "tableReads", fn := fun _ => fun
  | [d1, d2, d3, d4] => { results := [.lit (.bool true)], args := [d1, d2, d3, d4] }
  | _ => none }
def tableReadsRow : OpenClaim := { program := "ytgdkikkjaofbfaa", sum := "ce515e0ccbb5859b4ee5a6c8df2f5dca6ed5f12296cbfb28c72971f41c1af0f2", func := "scree/screelaw11.TableReads", spec := "tableReads", inPlace := ["internal/abi.NoEscape"], unfollowed := true, recurses := true, apart := false }
def TableReadsSaid : Prop := tableReadsRow.holds Try.pinned (OpenSpec.ofChange tableReadsSpec)

/-- ITS FALSE NEIGHBOUR: 'it returns false'. Refute it at one input. -/
def tableReadsWrong : ChangeSpec := { name := "tableReads", fn := fun _ => fun
  | [d1, d2, d3, d4] => { results := [.lit (.bool false)], args := [d1, d2, d3, d4] }
  | _ => none }
def TableReadsWrongFalsely : Prop := tableReadsRow.holds Try.pinned (OpenSpec.ofChange tableReadsWrong)

/-- 'screelaw11.TableBack': WHATEVER THE INPUT: true; the input reads as it did. -/
def tableBackSpec : ChangeSpec := { name := "tableBack", fn := fun _ => fun
  | [d1, d2] => { results := [.lit (.bool true)], args := [d1, d2] }
  | _ => none }
def tableBackRow : OpenClaim := { program := "ytgdkikkjaofbfaa", sum := "ce515e0ccbb5859b4ee5a6c8df2f5dca6ed5f12296cbfb28c72971f41c1af0f2", func := "scree/screelaw11.TableBack", spec := "tableBack", inPlace := ["internal/abi.NoEscape"], unfollowed := true, recurses := true, apart := false }
def TableBackSaid : Prop := tableBackRow.holds Try.pinned (OpenSpec.ofChange tableBackSpec)

/-- ITS FALSE NEIGHBOUR: 'it returns false'. Refute it at one input. -/
def tableBackWrong : ChangeSpec := { name := "tableBack", fn := fun _ => fun
  | [d1, d2] => { results := [.lit (.bool false)], args := [d1, d2] }
  | _ => none }
def TableBackWrongFalsely : Prop := tableBackRow.holds Try.pinned (OpenSpec.ofChange tableBackWrong)

/-- 'screelaw11.TableGets': WHATEVER THE INPUT: true; the input reads as it did. -/
def tableGetsSpec : ChangeSpec := { name := "tableGets", fn := fun _ => fun
  | [d1, d2, d3] => { results := [.lit (.bool true)], args := [d1, d2, d3] }
  | _ => none }
def tableGetsRow : OpenClaim := { program := "ytgdkikkjaofbfaa", sum := "ce515e0ccbb5859b4ee5a6c8df2f5dca6ed5f12296cbfb28c72971f41c1af0f2", func := "scree/screelaw11.TableGets", spec := "tableGets", inPlace := ["internal/abi.NoEscape"], unfollowed := true, recurses := true, apart := false }
def TableGetsSaid : Prop := tableGetsRow.holds Try.pinned (OpenSpec.ofChange tableGetsSpec)

/-- ITS FALSE NEIGHBOUR: 'it returns false'. Refute it at one input. -/
def tableGetsWrong : ChangeSpec := { name := "tableGets", fn := fun _ => fun
  | [d1, d2, d3] => { results := [.lit (.bool false)], args := [d1, d2, d3] }
  | _ => none }
def TableGetsWrongFalsely : Prop := tableGetsRow.holds Try.pinned (OpenSpec.ofChange tableGetsWrong)

/-- 'screelaw11.TableFrom': WHATEVER THE INPUT: true; the input reads as it did. -/
def tableFromSpec : ChangeSpec := { name := "tableFrom", fn := fun _ => fun
  | [d1, d2, d3] => { results := [.lit (.bool true)], args := [d1, d2, d3] }
  | _ => none }
def tableFromRow : OpenClaim := { program := "ytgdkikkjaofbfaa", sum := "ce515e0ccbb5859b4ee5a6c8df2f5dca6ed5f12296cbfb28c72971f41c1af0f2", func := "scree/screelaw11.TableFrom", spec := "tableFrom", inPlace := ["internal/abi.NoEscape"], unfollowed := true, recurses := true, apart := false }
def TableFromSaid : Prop := tableFromRow.holds Try.pinned (OpenSpec.ofChange tableFromSpec)

/-- ITS FALSE NEIGHBOUR: 'it returns false'. Refute it at one input. -/
def tableFromWrong : ChangeSpec := { name := "tableFrom", fn := fun _ => fun
  | [d1, d2, d3] => { results := [.lit (.bool false)], args := [d1, d2, d3] }
  | _ => none }
def TableFromWrongFalsely : Prop := tableFromRow.holds Try.pinned (OpenSpec.ofChange tableFromWrong)

/-- 'screelaw11.TableEnds': WHATEVER THE INPUT: true; the input reads as it did. -/
def tableEndsSpec : ChangeSpec := { name := "tableEnds", fn := fun _ => fun
  | [d1, d2] => { results := [.lit (.bool true)], args := [d1, d2] }
  | _ => none }
def tableEndsRow : OpenClaim := { program := "ytgdkikkjaofbfaa", sum := "ce515e0ccbb5859b4ee5a6c8df2f5dca6ed5f12296cbfb28c72971f41c1af0f2", func := "scree/screelaw11.TableEnds", spec := "tableEnds", inPlace := ["internal/abi.NoEscape"], unfollowed := true, recurses := true, apart := false }
def TableEndsSaid : Prop := tableEndsRow.holds Try.pinned (OpenSpec.ofChange tableEndsSpec)

/-- ITS FALSE NEIGHBOUR: 'it returns false'. Refute it at one input. -/
def tableEndsWrong : ChangeSpec := { name := "tableEnds", fn := fun _ => fun
  | [d1, d2] => { results := [.lit (.bool false)], args := [d1, d2] }
  | _ => none }
def TableEndsWrongFalsely : Prop := tableEndsRow.holds Try.pinned (OpenSpec.ofChange tableEndsWrong)

/-- 'screelaw11.TableCut': WHATEVER THE INPUT: true; the input reads as it did. -/
def tableCutSpec : ChangeSpec := { name := "tableCut", fn := fun _ => fun
  | [d1, d2, d3] => { results := [.lit (.bool true)], args := [d1, d2, d3] }
  | _ => none }
def tableCutRow : OpenClaim := { program := "ytgdkikkjaofbfaa", sum := "ce515e0ccbb5859b4ee5a6c8df2f5dca6ed5f12296cbfb28c72971f41c1af0f2", func := "scree/screelaw11.TableCut", spec := "tableCut", inPlace := ["internal/abi.NoEscape"], unfollowed := true, recurses := true, apart := false }
def TableCutSaid : Prop := tableCutRow.holds Try.pinned (OpenSpec.ofChange tableCutSpec)

/-- ITS FALSE NEIGHBOUR: 'it returns false'. Refute it at one input. -/
def tableCutWrong : ChangeSpec := { name := "tableCut", fn := fun _ => fun
  | [d1, d2, d3] => { results := [.lit (.bool false)], args := [d1, d2, d3] }
  | _ => none }
def TableCutWrongFalsely : Prop := tableCutRow.holds Try.pinned (OpenSpec.ofChange tableCutWrong)

/- THE SECOND FORM. 'bulk': how many values and letters a reading holds, each counted each time it is reached (what is shared counts as often as it is met; a slice's spare places count too). A statement '..UptoSaid' is the law's where the arguments, and the package variables that the reading takes, are together of bulk at most 1048576: NARROWER than '..Said'. Prove '..Said' where nothing that the law and all that it calls make is longer than what came in: it says more and counts as full. Else prove '..UptoSaid'. A law counts once. -/
mutual
def uptoBulk {H : Type} : DataW H → Nat
  | .lit (.string bytes) => bytes.length + 1
  | .lit _ => 1
  | .nil => 1
  | .ptr d => uptoBulk d + 1
  | .slice elems spare => uptoBulkAll elems + uptoBulkAll spare + 1
  | .agg parts => uptoBulkAll parts + 1
  | .iface _ d => uptoBulk d + 1
  | .map entries => uptoBulkEntries entries + 1
  | .held _ => 1
def uptoBulkAll {H : Type} : List (DataW H) → Nat
  | [] => 0
  | d :: r => uptoBulk d + uptoBulkAll r
def uptoBulkEntries {H : Type} : List (Lit × DataW H) → Nat
  | [] => 0
  | x :: r => uptoBulkEntry x + uptoBulkEntries r
def uptoBulkEntry {H : Type} : Lit × DataW H → Nat
  | (.string bytes, d) => bytes.length + uptoBulk d + 1
  | (_, d) => uptoBulk d + 1
 end
def uptoSmall : (H : Type) → List (DataW H) → Bool := fun _ ds => decide (uptoBulkAll ds ≤ 1048576)
def OpenSpec.upto (s : _root_.Go.ChangeSpec) : _root_.Go.OpenSpec := { _root_.Go.OpenSpec.ofChange s with cond := some uptoSmall }

/-- 'screelaw11.TableWrites', WHERE WHAT IT READS IS OF BULK AT MOST 1048576: true; the input reads as it did. -/
def tableWritesUptoRow : OpenClaim := { program := "ytgdkikkjaofbfaa", sum := "ce515e0ccbb5859b4ee5a6c8df2f5dca6ed5f12296cbfb28c72971f41c1af0f2", func := "scree/screelaw11.TableWrites", spec := "tableWrites", inPlace := ["internal/abi.NoEscape"], unfollowed := true, recurses := true, apart := false, narrowed := true }
def TableWritesUptoSaid : Prop := tableWritesUptoRow.holds Try.pinned (OpenSpec.upto tableWritesSpec)

/-- 'screelaw11.TableReads', WHERE WHAT IT READS IS OF BULK AT MOST 1048576: true; the input reads as it did. -/
def tableReadsUptoRow : OpenClaim := { program := "ytgdkikkjaofbfaa", sum := "ce515e0ccbb5859b4ee5a6c8df2f5dca6ed5f12296cbfb28c72971f41c1af0f2", func := "scree/screelaw11.TableReads", spec := "tableReads", inPlace := ["internal/abi.NoEscape"], unfollowed := true, recurses := true, apart := false, narrowed := true }
def TableReadsUptoSaid : Prop := tableReadsUptoRow.holds Try.pinned (OpenSpec.upto tableReadsSpec)

/-- 'screelaw11.TableBack', WHERE WHAT IT READS IS OF BULK AT MOST 1048576: true; the input reads as it did. -/
def tableBackUptoRow : OpenClaim := { program := "ytgdkikkjaofbfaa", sum := "ce515e0ccbb5859b4ee5a6c8df2f5dca6ed5f12296cbfb28c72971f41c1af0f2", func := "scree/screelaw11.TableBack", spec := "tableBack", inPlace := ["internal/abi.NoEscape"], unfollowed := true, recurses := true, apart := false, narrowed := true }
def TableBackUptoSaid : Prop := tableBackUptoRow.holds Try.pinned (OpenSpec.upto tableBackSpec)

/-- 'screelaw11.TableGets', WHERE WHAT IT READS IS OF BULK AT MOST 1048576: true; the input reads as it did. -/
def tableGetsUptoRow : OpenClaim := { program := "ytgdkikkjaofbfaa", sum := "ce515e0ccbb5859b4ee5a6c8df2f5dca6ed5f12296cbfb28c72971f41c1af0f2", func := "scree/screelaw11.TableGets", spec := "tableGets", inPlace := ["internal/abi.NoEscape"], unfollowed := true, recurses := true, apart := false, narrowed := true }
def TableGetsUptoSaid : Prop := tableGetsUptoRow.holds Try.pinned (OpenSpec.upto tableGetsSpec)

/-- 'screelaw11.TableFrom', WHERE WHAT IT READS IS OF BULK AT MOST 1048576: true; the input reads as it did. -/
def tableFromUptoRow : OpenClaim := { program := "ytgdkikkjaofbfaa", sum := "ce515e0ccbb5859b4ee5a6c8df2f5dca6ed5f12296cbfb28c72971f41c1af0f2", func := "scree/screelaw11.TableFrom", spec := "tableFrom", inPlace := ["internal/abi.NoEscape"], unfollowed := true, recurses := true, apart := false, narrowed := true }
def TableFromUptoSaid : Prop := tableFromUptoRow.holds Try.pinned (OpenSpec.upto tableFromSpec)

/-- 'screelaw11.TableEnds', WHERE WHAT IT READS IS OF BULK AT MOST 1048576: true; the input reads as it did. -/
def tableEndsUptoRow : OpenClaim := { program := "ytgdkikkjaofbfaa", sum := "ce515e0ccbb5859b4ee5a6c8df2f5dca6ed5f12296cbfb28c72971f41c1af0f2", func := "scree/screelaw11.TableEnds", spec := "tableEnds", inPlace := ["internal/abi.NoEscape"], unfollowed := true, recurses := true, apart := false, narrowed := true }
def TableEndsUptoSaid : Prop := tableEndsUptoRow.holds Try.pinned (OpenSpec.upto tableEndsSpec)

/-- 'screelaw11.TableCut', WHERE WHAT IT READS IS OF BULK AT MOST 1048576: true; the input reads as it did. -/
def tableCutUptoRow : OpenClaim := { program := "ytgdkikkjaofbfaa", sum := "ce515e0ccbb5859b4ee5a6c8df2f5dca6ed5f12296cbfb28c72971f41c1af0f2", func := "scree/screelaw11.TableCut", spec := "tableCut", inPlace := ["internal/abi.NoEscape"], unfollowed := true, recurses := true, apart := false, narrowed := true }
def TableCutUptoSaid : Prop := tableCutUptoRow.holds Try.pinned (OpenSpec.upto tableCutSpec)

end Rows
end Go.Proofs.Ytgdkikkjaofbfaa
