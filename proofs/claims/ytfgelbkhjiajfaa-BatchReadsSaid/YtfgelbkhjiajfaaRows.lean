/-
  No cell of these rows narrows 'for every input' (looked for: loops, veiled, ifaces, maps, wideKeys, modest, calm, conditions, laid).
  DERIVED. THE GIVEN ROWS OF THIS SEAT. 7 by the template 'for every input the law returns true; each argument reads behind the call as it read before'; 0 by the template 'total and deterministic' (their statements: YtfgelbkhjiajfaaTotals.lean).
  GIVEN WITH THE SEED: the statements are not yours to turn. If you find one false, say at which input.
  Laid BY PROGRAM, IN A SANDBOX (cutbox-rows.mjs): the forced cells as the released guide's own fill.sh prints them over the translation 583c36e168237301… (all of the seat's roots in one cut). By AI agents, Wed Nov 11 2026. No macro, syntax, notation, axiom, sorry.
-/
import Derived.Test.YtfgelbkhjiajfaaChecked
import GoSem.Claim
import GoSem.ClaimJoined
import GoSem.ClaimMapViews
import Derived.JoinedTies
import Derived.KernelRfl
namespace Go.Proofs.Ytfgelbkhjiajfaa
/- THE CELL 'sum', in the pinned program and in every row, IS THE sha256 OF THE DUMP (.gsa) THAT YtfgelbkhjiajfaaProg.lean LOADS. Nothing in Lean hashes anything: it is a label: what it is worth is what the hold of that sum in a sandbox is worth. -/
noncomputable def Try.pinned : Pinned := { name := "ytfgelbkhjiajfaa", sum := "583c36e168237301f556256caea35bd809afd49c44fc8c6bc2066e8bc6d3deb3", checked := Try.checked }
namespace Rows
def none {H : Type} : Left H := { results := [], args := [] }

/-- 'screelaw05.BatchWrites': WHATEVER THE INPUT: true; the input reads as it did. -/
def batchWritesSpec : ChangeSpec := { name := "batchWrites", fn := fun _ => fun
  | [d1, d2] => { results := [.lit (.bool true)], args := [d1, d2] }
  | _ => none }
def batchWritesRow : OpenClaim := { program := "ytfgelbkhjiajfaa", sum := "583c36e168237301f556256caea35bd809afd49c44fc8c6bc2066e8bc6d3deb3", func := "scree/screelaw05.BatchWrites", spec := "batchWrites", inPlace := ["internal/abi.NoEscape"], unfollowed := true, recurses := true, apart := false }
def BatchWritesSaid : Prop := batchWritesRow.holds Try.pinned (OpenSpec.ofChange batchWritesSpec)

/-- ITS FALSE NEIGHBOUR: 'it returns false'. Refute it at one input. -/
def batchWritesWrong : ChangeSpec := { name := "batchWrites", fn := fun _ => fun
  | [d1, d2] => { results := [.lit (.bool false)], args := [d1, d2] }
  | _ => none }
def BatchWritesWrongFalsely : Prop := batchWritesRow.holds Try.pinned (OpenSpec.ofChange batchWritesWrong)

/-- 'screelaw05.BatchReads': WHATEVER THE INPUT: true; the input reads as it did. -/
def batchReadsSpec : ChangeSpec := { name := "batchReads", fn := fun _ => fun
  | [d] => { results := [.lit (.bool true)], args := [d] }
  | _ => none }
def batchReadsRow : OpenClaim := { program := "ytfgelbkhjiajfaa", sum := "583c36e168237301f556256caea35bd809afd49c44fc8c6bc2066e8bc6d3deb3", func := "scree/screelaw05.BatchReads", spec := "batchReads", inPlace := ["internal/abi.NoEscape"], unfollowed := true, recurses := true, apart := false }
def BatchReadsSaid : Prop := batchReadsRow.holds Try.pinned (OpenSpec.ofChange batchReadsSpec)

/-- ITS FALSE NEIGHBOUR: 'it returns false'. Refute it at one input. -/
def batchReadsWrong : ChangeSpec := { name := "batchReads", fn := fun _ => fun
  | [d] => { results := [.lit (.bool false)], args := [d] }
  | _ => none }
def BatchReadsWrongFalsely : Prop := batchReadsRow.holds Try.pinned (OpenSpec.ofChange batchReadsWrong)

/-- 'screelaw05.BatchBack': WHATEVER THE INPUT: true; the input reads as it did. -/
def batchBackSpec : ChangeSpec := { name := "batchBack", fn := fun _ => fun
  | [d1, d2, d3] => { results := [.lit (.bool true)], args := [d1, d2, d3] }
  | _ => none }
def batchBackRow : OpenClaim := { program := "ytfgelbkhjiajfaa", sum := "583c36e168237301f556256caea35bd809afd49c44fc8c6bc2066e8bc6d3deb3", func := "scree/screelaw05.BatchBack", spec := "batchBack", inPlace := ["internal/abi.NoEscape"], unfollowed := true, recurses := true, apart := false }
def BatchBackSaid : Prop := batchBackRow.holds Try.pinned (OpenSpec.ofChange batchBackSpec)

/-- ITS FALSE NEIGHBOUR: 'it returns false'. Refute it at one input. -/
def batchBackWrong : ChangeSpec := { name := "batchBack", fn := fun _ => fun
  | [d1, d2, d3] => { results := [.lit (.bool false)], args := [d1, d2, d3] }
  | _ => none }
def BatchBackWrongFalsely : Prop := batchBackRow.holds Try.pinned (OpenSpec.ofChange batchBackWrong)

/-- 'screelaw05.BatchApart': WHATEVER THE INPUT: true; the input reads as it did. -/
def batchApartSpec : ChangeSpec := { name := "batchApart", fn := fun _ => fun
  | [d1, d2, d3, d4] => { results := [.lit (.bool true)], args := [d1, d2, d3, d4] }
  | _ => none }
def batchApartRow : OpenClaim := { program := "ytfgelbkhjiajfaa", sum := "583c36e168237301f556256caea35bd809afd49c44fc8c6bc2066e8bc6d3deb3", func := "scree/screelaw05.BatchApart", spec := "batchApart", inPlace := ["internal/abi.NoEscape"], unfollowed := true, recurses := true, apart := false }
def BatchApartSaid : Prop := batchApartRow.holds Try.pinned (OpenSpec.ofChange batchApartSpec)

/-- ITS FALSE NEIGHBOUR: 'it returns false'. Refute it at one input. -/
def batchApartWrong : ChangeSpec := { name := "batchApart", fn := fun _ => fun
  | [d1, d2, d3, d4] => { results := [.lit (.bool false)], args := [d1, d2, d3, d4] }
  | _ => none }
def BatchApartWrongFalsely : Prop := batchApartRow.holds Try.pinned (OpenSpec.ofChange batchApartWrong)

/-- 'screelaw05.BatchNumbers': WHATEVER THE INPUT: true; the input reads as it did. -/
def batchNumbersSpec : ChangeSpec := { name := "batchNumbers", fn := fun _ => fun
  | [d1, d2] => { results := [.lit (.bool true)], args := [d1, d2] }
  | _ => none }
def batchNumbersRow : OpenClaim := { program := "ytfgelbkhjiajfaa", sum := "583c36e168237301f556256caea35bd809afd49c44fc8c6bc2066e8bc6d3deb3", func := "scree/screelaw05.BatchNumbers", spec := "batchNumbers", inPlace := ["internal/abi.NoEscape"], unfollowed := true, recurses := true, apart := false }
def BatchNumbersSaid : Prop := batchNumbersRow.holds Try.pinned (OpenSpec.ofChange batchNumbersSpec)

/-- ITS FALSE NEIGHBOUR: 'it returns false'. Refute it at one input. -/
def batchNumbersWrong : ChangeSpec := { name := "batchNumbers", fn := fun _ => fun
  | [d1, d2] => { results := [.lit (.bool false)], args := [d1, d2] }
  | _ => none }
def BatchNumbersWrongFalsely : Prop := batchNumbersRow.holds Try.pinned (OpenSpec.ofChange batchNumbersWrong)

/-- 'screelaw05.BatchCuts': WHATEVER THE INPUT: true; the input reads as it did. -/
def batchCutsSpec : ChangeSpec := { name := "batchCuts", fn := fun _ => fun
  | [d1, d2, d3, d4] => { results := [.lit (.bool true)], args := [d1, d2, d3, d4] }
  | _ => none }
def batchCutsRow : OpenClaim := { program := "ytfgelbkhjiajfaa", sum := "583c36e168237301f556256caea35bd809afd49c44fc8c6bc2066e8bc6d3deb3", func := "scree/screelaw05.BatchCuts", spec := "batchCuts", inPlace := ["internal/abi.NoEscape"], unfollowed := true, recurses := true, apart := false }
def BatchCutsSaid : Prop := batchCutsRow.holds Try.pinned (OpenSpec.ofChange batchCutsSpec)

/-- ITS FALSE NEIGHBOUR: 'it returns false'. Refute it at one input. -/
def batchCutsWrong : ChangeSpec := { name := "batchCuts", fn := fun _ => fun
  | [d1, d2, d3, d4] => { results := [.lit (.bool false)], args := [d1, d2, d3, d4] }
  | _ => none }
def BatchCutsWrongFalsely : Prop := batchCutsRow.holds Try.pinned (OpenSpec.ofChange batchCutsWrong)

/-- 'screelaw05.BatchMay': WHATEVER THE INPUT: true; the input reads as it did. -/
def batchMaySpec : ChangeSpec := { name := "batchMay", fn := fun _ => fun
  | [d] => { results := [.lit (.bool true)], args := [d] }
  | _ => none }
def batchMayRow : OpenClaim := { program := "ytfgelbkhjiajfaa", sum := "583c36e168237301f556256caea35bd809afd49c44fc8c6bc2066e8bc6d3deb3", func := "scree/screelaw05.BatchMay", spec := "batchMay", inPlace := ["internal/abi.NoEscape"], unfollowed := true, recurses := true, apart := false }
def BatchMaySaid : Prop := batchMayRow.holds Try.pinned (OpenSpec.ofChange batchMaySpec)

/-- ITS FALSE NEIGHBOUR: 'it returns false'. Refute it at one input. -/
def batchMayWrong : ChangeSpec := { name := "batchMay", fn := fun _ => fun
  | [d] => { results := [.lit (.bool false)], args := [d] }
  | _ => none }
def BatchMayWrongFalsely : Prop := batchMayRow.holds Try.pinned (OpenSpec.ofChange batchMayWrong)

/- THE SECOND FORM. 'bulk': how many values and letters a reading holds, each counted each time it is reached (what is shared counts as often as it is met; a slice's spare places count too). A statement '..UptoSaid' is the law's where the arguments, and the package variables that the reading takes, are together of bulk at most 1048576: NARROWER than '..Said'. Prove '..Said' where nothing that the law and all that it calls make is longer than what came in: it says more and counts as full. Else prove '..UptoSaid'. A law counts once. -/
mutual
def uptoBulk {H : Type} : DataW H → Nat
  | .lit (.string bytes) => bytes.length + 1
  | .lit _ => 1
  | .nil => 1
  | .ptr d => uptoBulk d + 1
  | .slice elems spare => uptoBulkAll elems + uptoBulkAll spare + 1
  | .agg parts => uptoBulkAll parts + 1
  | .iface _ d => uptoBulk d + 1
  | .map entries => uptoBulkEntries entries + 1
  | .held _ => 1
def uptoBulkAll {H : Type} : List (DataW H) → Nat
  | [] => 0
  | d :: r => uptoBulk d + uptoBulkAll r
def uptoBulkEntries {H : Type} : List (Lit × DataW H) → Nat
  | [] => 0
  | x :: r => uptoBulkEntry x + uptoBulkEntries r
def uptoBulkEntry {H : Type} : Lit × DataW H → Nat
  | (.string bytes, d) => bytes.length + uptoBulk d + 1
  | (_, d) => uptoBulk d + 1
 end
def uptoSmall : (H : Type) → List (DataW H) → Bool := fun _ ds => decide (uptoBulkAll ds ≤ 1048576)
def OpenSpec.upto (s : _root_.Go.ChangeSpec) : _root_.Go.OpenSpec := { _root_.Go.OpenSpec.ofChange s with cond := some uptoSmall }

/-- 'screelaw05.BatchWrites', WHERE WHAT IT READS IS OF BULK AT MOST 1048576: true; the input reads as it did. -/
def batchWritesUptoRow : OpenClaim := { program := "ytfgelbkhjiajfaa", sum := "583c36e168237301f556256caea35bd809afd49c44fc8c6bc2066e8bc6d3deb3", func := "scree/screelaw05.BatchWrites", spec := "batchWrites", inPlace := ["internal/abi.NoEscape"], unfollowed := true, recurses := true, apart := false, narrowed := true }
def BatchWritesUptoSaid : Prop := batchWritesUptoRow.holds Try.pinned (OpenSpec.upto batchWritesSpec)

/-- 'screelaw05.BatchReads', WHERE WHAT IT READS IS OF BULK AT MOST 1048576: true; the input reads as it did. -/
def batchReadsUptoRow : OpenClaim := { program := "ytfgelbkhjiajfaa", sum := "583c36e168237301f556256caea35bd809afd49c44fc8c6bc2066e8bc6d3deb3", func := "scree/screelaw05.BatchReads", spec := "batchReads", inPlace := ["internal/abi.NoEscape"], unfollowed := true, recurses := true, apart := false, narrowed := true }
def BatchReadsUptoSaid : Prop := batchReadsUptoRow.holds Try.pinned (OpenSpec.upto batchReadsSpec)

/-- 'screelaw05.BatchBack', WHERE WHAT IT READS IS OF BULK AT MOST 1048576: true; the input reads as it did. -/
def batchBackUptoRow : OpenClaim := { program := "ytfgelbkhjiajfaa", sum := "583c36e168237301f556256caea35bd809afd49c44fc8c6bc2066e8bc6d3deb3", func := "scree/screelaw05.BatchBack", spec := "batchBack", inPlace := ["internal/abi.NoEscape"], unfollowed := true, recurses := true, apart := false, narrowed := true }
def BatchBackUptoSaid : Prop := batchBackUptoRow.holds Try.pinned (OpenSpec.upto batchBackSpec)

/-- 'screelaw05.BatchApart', WHERE WHAT IT READS IS OF BULK AT MOST 1048576: true; the input reads as it did. -/
def batchApartUptoRow : OpenClaim := { program := "ytfgelbkhjiajfaa", sum := "583c36e168237301f556256caea35bd809afd49c44fc8c6bc2066e8bc6d3deb3", func := "scree/screelaw05.BatchApart", spec := "batchApart", inPlace := ["internal/abi.NoEscape"], unfollowed := true, recurses := true, apart := false, narrowed := true }
def BatchApartUptoSaid : Prop := batchApartUptoRow.holds Try.pinned (OpenSpec.upto batchApartSpec)

/-- 'screelaw05.BatchNumbers', WHERE WHAT IT READS IS OF BULK AT MOST 1048576: true; the input reads as it did. -/
def batchNumbersUptoRow : OpenClaim := { program := "ytfgelbkhjiajfaa", sum := "583c36e168237301f556256caea35bd809afd49c44fc8c6bc2066e8bc6d3deb3", func := "scree/screelaw05.BatchNumbers", spec := "batchNumbers", inPlace := ["internal/abi.NoEscape"], unfollowed := true, recurses := true, apart := false, narrowed := true }
def BatchNumbersUptoSaid : Prop := batchNumbersUptoRow.holds Try.pinned (OpenSpec.upto batchNumbersSpec)

/-- 'screelaw05.BatchCuts', WHERE WHAT IT READS IS OF BULK AT MOST 1048576: true; the input reads as it did. -/
def batchCutsUptoRow : OpenClaim := { program := "ytfgelbkhjiajfaa", sum := "583c36e168237301f556256caea35bd809afd49c44fc8c6bc2066e8bc6d3deb3", func := "scree/screelaw05.BatchCuts", spec := "batchCuts", inPlace := ["internal/abi.NoEscape"], unfollowed := true, recurses := true, apart := false, narrowed := true }
def BatchCutsUptoSaid : Prop := batchCutsUptoRow.holds Try.pinned (OpenSpec.upto batchCutsSpec)

/-- 'screelaw05.BatchMay', WHERE WHAT IT READS IS OF BULK AT MOST 1048576: true; the input reads as it did. -/
def batchMayUptoRow : OpenClaim := { program := "ytfgelbkhjiajfaa", sum := "583c36e168237301f556256caea35bd809afd49c44fc8c6bc2066e8bc6d3deb3", func := "scree/screelaw05.BatchMay", spec := "batchMay", inPlace := ["internal/abi.NoEscape"], unfollowed := true, recurses := true, apart := false, narrowed := true }
def BatchMayUptoSaid : Prop := batchMayUptoRow.holds Try.pinned (OpenSpec.upto batchMaySpec)

end Rows
end Go.Proofs.Ytfgelbkhjiajfaa
