/-
  No cell of these rows narrows 'for every input' (looked for: loops, veiled, ifaces, maps, wideKeys, modest, calm, conditions, laid).
  DERIVED. THE GIVEN ROWS OF THIS SEAT. 7 by the template 'for every input the law returns true; each argument reads behind the call as it read before'; 0 by the template 'total and deterministic' (their statements: YtodblgdpnjdnkaaTotals.lean).
  GIVEN WITH THE SEED: the statements are not yours to turn. If you find one false, say at which input.
  Laid BY PROGRAM, IN A SANDBOX (cutbox-rows.mjs): the forced cells as the released guide's own fill.sh prints them over the translation 0476cb5961d4aa5c… (all of the seat's roots in one cut). By AI agents, Wed Nov 11 2026. No macro, syntax, notation, axiom, sorry.
-/
import Derived.Test.YtodblgdpnjdnkaaChecked
import GoSem.Claim
import GoSem.ClaimJoined
import GoSem.ClaimMapViews
import Derived.JoinedTies
import Derived.KernelRfl
namespace Go.Proofs.Ytodblgdpnjdnkaa
/- THE CELL 'sum', in the pinned program and in every row, IS THE sha256 OF THE DUMP (.gsa) THAT YtodblgdpnjdnkaaProg.lean LOADS. Nothing in Lean hashes anything: it is a label: what it is worth is what the hold of that sum in a sandbox is worth. -/
noncomputable def Try.pinned : Pinned := { name := "ytodblgdpnjdnkaa", sum := "0476cb5961d4aa5c72fc22be5da74d85c900754075098a3d23bb002c3b38453c", checked := Try.checked }
namespace Rows
def none {H : Type} : Left H := { results := [], args := [] }

/-- 'screelaw01.NumWrites': WHATEVER THE INPUT: true; the input reads as it did. -/
def numWritesSpec : ChangeSpec := { name := "numWrites", fn := fun _ => fun
  | [d1, d2, d3] => { results := [.lit (.bool true)], args := [d1, d2, d3] }
  | _ => none }
def numWritesRow : OpenClaim := { program := "ytodblgdpnjdnkaa", sum := "0476cb5961d4aa5c72fc22be5da74d85c900754075098a3d23bb002c3b38453c", func := "scree/screelaw01.NumWrites", spec := "numWrites", apart := false }
def NumWritesSaid : Prop := numWritesRow.holds Try.pinned (OpenSpec.ofChange numWritesSpec)

/-- ITS FALSE NEIGHBOUR: 'it returns false'. Refute it at one input. -/
def numWritesWrong : ChangeSpec := { name := "numWrites", fn := fun _ => fun
  | [d1, d2, d3] => { results := [.lit (.bool false)], args := [d1, d2, d3] }
  | _ => none }
def NumWritesWrongFalsely : Prop := numWritesRow.holds Try.pinned (OpenSpec.ofChange numWritesWrong)

/-- 'screelaw01.NumReads': WHATEVER THE INPUT: true; the input reads as it did. -/
def numReadsSpec : ChangeSpec := { name := "numReads", fn := fun _ => fun
  | [d] => { results := [.lit (.bool true)], args := [d] }
  | _ => none }
def numReadsRow : OpenClaim := { program := "ytodblgdpnjdnkaa", sum := "0476cb5961d4aa5c72fc22be5da74d85c900754075098a3d23bb002c3b38453c", func := "scree/screelaw01.NumReads", spec := "numReads", apart := false }
def NumReadsSaid : Prop := numReadsRow.holds Try.pinned (OpenSpec.ofChange numReadsSpec)

/-- ITS FALSE NEIGHBOUR: 'it returns false'. Refute it at one input. -/
def numReadsWrong : ChangeSpec := { name := "numReads", fn := fun _ => fun
  | [d] => { results := [.lit (.bool false)], args := [d] }
  | _ => none }
def NumReadsWrongFalsely : Prop := numReadsRow.holds Try.pinned (OpenSpec.ofChange numReadsWrong)

/-- 'screelaw01.NumBack': WHATEVER THE INPUT: true; the input reads as it did. -/
def numBackSpec : ChangeSpec := { name := "numBack", fn := fun _ => fun
  | [d1, d2] => { results := [.lit (.bool true)], args := [d1, d2] }
  | _ => none }
def numBackRow : OpenClaim := { program := "ytodblgdpnjdnkaa", sum := "0476cb5961d4aa5c72fc22be5da74d85c900754075098a3d23bb002c3b38453c", func := "scree/screelaw01.NumBack", spec := "numBack", apart := false }
def NumBackSaid : Prop := numBackRow.holds Try.pinned (OpenSpec.ofChange numBackSpec)

/-- ITS FALSE NEIGHBOUR: 'it returns false'. Refute it at one input. -/
def numBackWrong : ChangeSpec := { name := "numBack", fn := fun _ => fun
  | [d1, d2] => { results := [.lit (.bool false)], args := [d1, d2] }
  | _ => none }
def NumBackWrongFalsely : Prop := numBackRow.holds Try.pinned (OpenSpec.ofChange numBackWrong)

/-- 'screelaw01.NumOrder': WHATEVER THE INPUT: true; the input reads as it did. -/
def numOrderSpec : ChangeSpec := { name := "numOrder", fn := fun _ => fun
  | [d1, d2] => { results := [.lit (.bool true)], args := [d1, d2] }
  | _ => none }
def numOrderRow : OpenClaim := { program := "ytodblgdpnjdnkaa", sum := "0476cb5961d4aa5c72fc22be5da74d85c900754075098a3d23bb002c3b38453c", func := "scree/screelaw01.NumOrder", spec := "numOrder", apart := false }
def NumOrderSaid : Prop := numOrderRow.holds Try.pinned (OpenSpec.ofChange numOrderSpec)

/-- ITS FALSE NEIGHBOUR: 'it returns false'. Refute it at one input. -/
def numOrderWrong : ChangeSpec := { name := "numOrder", fn := fun _ => fun
  | [d1, d2] => { results := [.lit (.bool false)], args := [d1, d2] }
  | _ => none }
def NumOrderWrongFalsely : Prop := numOrderRow.holds Try.pinned (OpenSpec.ofChange numOrderWrong)

/-- 'screelaw01.NumFolds': WHATEVER THE INPUT: true; the input reads as it did. -/
def numFoldsSpec : ChangeSpec := { name := "numFolds", fn := fun _ => fun
  | [d1, d2] => { results := [.lit (.bool true)], args := [d1, d2] }
  | _ => none }
def numFoldsRow : OpenClaim := { program := "ytodblgdpnjdnkaa", sum := "0476cb5961d4aa5c72fc22be5da74d85c900754075098a3d23bb002c3b38453c", func := "scree/screelaw01.NumFolds", spec := "numFolds", apart := false }
def NumFoldsSaid : Prop := numFoldsRow.holds Try.pinned (OpenSpec.ofChange numFoldsSpec)

/-- ITS FALSE NEIGHBOUR: 'it returns false'. Refute it at one input. -/
def numFoldsWrong : ChangeSpec := { name := "numFolds", fn := fun _ => fun
  | [d1, d2] => { results := [.lit (.bool false)], args := [d1, d2] }
  | _ => none }
def NumFoldsWrongFalsely : Prop := numFoldsRow.holds Try.pinned (OpenSpec.ofChange numFoldsWrong)

/-- 'screelaw01.NumFits': WHATEVER THE INPUT: true; the input reads as it did. -/
def numFitsSpec : ChangeSpec := { name := "numFits", fn := fun _ => fun
  | [d1, d2, d3] => { results := [.lit (.bool true)], args := [d1, d2, d3] }
  | _ => none }
def numFitsRow : OpenClaim := { program := "ytodblgdpnjdnkaa", sum := "0476cb5961d4aa5c72fc22be5da74d85c900754075098a3d23bb002c3b38453c", func := "scree/screelaw01.NumFits", spec := "numFits", apart := false }
def NumFitsSaid : Prop := numFitsRow.holds Try.pinned (OpenSpec.ofChange numFitsSpec)

/-- ITS FALSE NEIGHBOUR: 'it returns false'. Refute it at one input. -/
def numFitsWrong : ChangeSpec := { name := "numFits", fn := fun _ => fun
  | [d1, d2, d3] => { results := [.lit (.bool false)], args := [d1, d2, d3] }
  | _ => none }
def NumFitsWrongFalsely : Prop := numFitsRow.holds Try.pinned (OpenSpec.ofChange numFitsWrong)

/-- 'screelaw01.NumLengths': WHATEVER THE INPUT: true; the input reads as it did. -/
def numLengthsSpec : ChangeSpec := { name := "numLengths", fn := fun _ => fun
  | [d1, d2] => { results := [.lit (.bool true)], args := [d1, d2] }
  | _ => none }
def numLengthsRow : OpenClaim := { program := "ytodblgdpnjdnkaa", sum := "0476cb5961d4aa5c72fc22be5da74d85c900754075098a3d23bb002c3b38453c", func := "scree/screelaw01.NumLengths", spec := "numLengths", apart := false }
def NumLengthsSaid : Prop := numLengthsRow.holds Try.pinned (OpenSpec.ofChange numLengthsSpec)

/-- ITS FALSE NEIGHBOUR: 'it returns false'. Refute it at one input. -/
def numLengthsWrong : ChangeSpec := { name := "numLengths", fn := fun _ => fun
  | [d1, d2] => { results := [.lit (.bool false)], args := [d1, d2] }
  | _ => none }
def NumLengthsWrongFalsely : Prop := numLengthsRow.holds Try.pinned (OpenSpec.ofChange numLengthsWrong)

/- THE SECOND FORM. 'bulk': how many values and letters a reading holds, each counted each time it is reached (what is shared counts as often as it is met; a slice's spare places count too). A statement '..UptoSaid' is the law's where the arguments, and the package variables that the reading takes, are together of bulk at most 1048576: NARROWER than '..Said'. Prove '..Said' where nothing that the law and all that it calls make is longer than what came in: it says more and counts as full. Else prove '..UptoSaid'. A law counts once. -/
mutual
def uptoBulk {H : Type} : DataW H → Nat
  | .lit (.string bytes) => bytes.length + 1
  | .lit _ => 1
  | .nil => 1
  | .ptr d => uptoBulk d + 1
  | .slice elems spare => uptoBulkAll elems + uptoBulkAll spare + 1
  | .agg parts => uptoBulkAll parts + 1
  | .iface _ d => uptoBulk d + 1
  | .map entries => uptoBulkEntries entries + 1
  | .held _ => 1
def uptoBulkAll {H : Type} : List (DataW H) → Nat
  | [] => 0
  | d :: r => uptoBulk d + uptoBulkAll r
def uptoBulkEntries {H : Type} : List (Lit × DataW H) → Nat
  | [] => 0
  | x :: r => uptoBulkEntry x + uptoBulkEntries r
def uptoBulkEntry {H : Type} : Lit × DataW H → Nat
  | (.string bytes, d) => bytes.length + uptoBulk d + 1
  | (_, d) => uptoBulk d + 1
 end
def uptoSmall : (H : Type) → List (DataW H) → Bool := fun _ ds => decide (uptoBulkAll ds ≤ 1048576)
def OpenSpec.upto (s : _root_.Go.ChangeSpec) : _root_.Go.OpenSpec := { _root_.Go.OpenSpec.ofChange s with cond := some uptoSmall }

/-- 'screelaw01.NumWrites', WHERE WHAT IT READS IS OF BULK AT MOST 1048576: true; the input reads as it did. -/
def numWritesUptoRow : OpenClaim := { program := "ytodblgdpnjdnkaa", sum := "0476cb5961d4aa5c72fc22be5da74d85c900754075098a3d23bb002c3b38453c", func := "scree/screelaw01.NumWrites", spec := "numWrites", apart := false, narrowed := true }
def NumWritesUptoSaid : Prop := numWritesUptoRow.holds Try.pinned (OpenSpec.upto numWritesSpec)

/-- 'screelaw01.NumReads', WHERE WHAT IT READS IS OF BULK AT MOST 1048576: true; the input reads as it did. -/
def numReadsUptoRow : OpenClaim := { program := "ytodblgdpnjdnkaa", sum := "0476cb5961d4aa5c72fc22be5da74d85c900754075098a3d23bb002c3b38453c", func := "scree/screelaw01.NumReads", spec := "numReads", apart := false, narrowed := true }
def NumReadsUptoSaid : Prop := numReadsUptoRow.holds Try.pinned (OpenSpec.upto numReadsSpec)

/-- 'screelaw01.NumBack', WHERE WHAT IT READS IS OF BULK AT MOST 1048576: true; the input reads as it did. -/
def numBackUptoRow : OpenClaim := { program := "ytodblgdpnjdnkaa", sum := "0476cb5961d4aa5c72fc22be5da74d85c900754075098a3d23bb002c3b38453c", func := "scree/screelaw01.NumBack", spec := "numBack", apart := false, narrowed := true }
def NumBackUptoSaid : Prop := numBackUptoRow.holds Try.pinned (OpenSpec.upto numBackSpec)

/-- 'screelaw01.NumOrder', WHERE WHAT IT READS IS OF BULK AT MOST 1048576: true; the input reads as it did. -/
def numOrderUptoRow : OpenClaim := { program := "ytodblgdpnjdnkaa", sum := "0476cb5961d4aa5c72fc22be5da74d85c900754075098a3d23bb002c3b38453c", func := "scree/screelaw01.NumOrder", spec := "numOrder", apart := false, narrowed := true }
def NumOrderUptoSaid : Prop := numOrderUptoRow.holds Try.pinned (OpenSpec.upto numOrderSpec)

/-- 'screelaw01.NumFolds', WHERE WHAT IT READS IS OF BULK AT MOST 1048576: true; the input reads as it did. -/
def numFoldsUptoRow : OpenClaim := { program := "ytodblgdpnjdnkaa", sum := "0476cb5961d4aa5c72fc22be5da74d85c900754075098a3d23bb002c3b38453c", func := "scree/screelaw01.NumFolds", spec := "numFolds", apart := false, narrowed := true }
def NumFoldsUptoSaid : Prop := numFoldsUptoRow.holds Try.pinned (OpenSpec.upto numFoldsSpec)

/-- 'screelaw01.NumFits', WHERE WHAT IT READS IS OF BULK AT MOST 1048576: true; the input reads as it did. -/
def numFitsUptoRow : OpenClaim := { program := "ytodblgdpnjdnkaa", sum := "0476cb5961d4aa5c72fc22be5da74d85c900754075098a3d23bb002c3b38453c", func := "scree/screelaw01.NumFits", spec := "numFits", apart := false, narrowed := true }
def NumFitsUptoSaid : Prop := numFitsUptoRow.holds Try.pinned (OpenSpec.upto numFitsSpec)

/-- 'screelaw01.NumLengths', WHERE WHAT IT READS IS OF BULK AT MOST 1048576: true; the input reads as it did. -/
def numLengthsUptoRow : OpenClaim := { program := "ytodblgdpnjdnkaa", sum := "0476cb5961d4aa5c72fc22be5da74d85c900754075098a3d23bb002c3b38453c", func := "scree/screelaw01.NumLengths", spec := "numLengths", apart := false, narrowed := true }
def NumLengthsUptoSaid : Prop := numLengthsUptoRow.holds Try.pinned (OpenSpec.upto numLengthsSpec)

end Rows
end Go.Proofs.Ytodblgdpnjdnkaa
