/-
  No cell of these rows narrows 'for every input' (looked for: loops, veiled, ifaces, maps, wideKeys, modest, calm, conditions, laid).
  DERIVED. THE GIVEN ROWS OF THIS SEAT. 7 by the template 'for every input the law returns true; each argument reads behind the call as it read before'; 0 by the template 'total and deterministic' (their statements: YtachminlgcndnaaTotals.lean).
  GIVEN WITH THE SEED: the statements are not yours to turn. If you find one false, say at which input.
  Laid BY PROGRAM, IN A SANDBOX (cutbox-rows.mjs): the forced cells as the released guide's own fill.sh prints them over the translation af756a734d64061c… (all of the seat's roots in one cut). By AI agents, Wed Nov 11 2026. No macro, syntax, notation, axiom, sorry.
-/
import Derived.Test.YtachminlgcndnaaChecked
import GoSem.Claim
import GoSem.ClaimJoined
import GoSem.ClaimMapViews
import Derived.JoinedTies
import Derived.KernelRfl
namespace Go.Proofs.Ytachminlgcndnaa
/- THE CELL 'sum', in the pinned program and in every row, IS THE sha256 OF THE DUMP (.gsa) THAT YtachminlgcndnaaProg.lean LOADS. Nothing in Lean hashes anything: it is a label: what it is worth is what the hold of that sum in a sandbox is worth. -/
noncomputable def Try.pinned : Pinned := { name := "ytachminlgcndnaa", sum := "af756a734d64061cf883ebb7b0cdf16c3c95aa0e407e7610c65e60082884c7b7", checked := Try.checked }
namespace Rows
def none {H : Type} : Left H := { results := [], args := [] }

/-- 'screelaw02.KeyMakes': WHATEVER THE INPUT: true; the input reads as it did. -/
def keyMakesSpec : ChangeSpec := { name := "keyMakes", fn := fun _ => fun
  | [d] => { results := [.lit (.bool true)], args := [d] }
  | _ => none }
def keyMakesRow : OpenClaim := { program := "ytachminlgcndnaa", sum := "af756a734d64061cf883ebb7b0cdf16c3c95aa0e407e7610c65e60082884c7b7", func := "scree/screelaw02.KeyMakes", spec := "keyMakes", inPlace := ["internal/abi.NoEscape"], apart := false }
def KeyMakesSaid : Prop := keyMakesRow.holds Try.pinned (OpenSpec.ofChange keyMakesSpec)

/-- ITS FALSE NEIGHBOUR: 'it returns false'. Refute it at one input. -/
def keyMakesWrong : ChangeSpec := { name := "keyMakes", fn := fun _ => fun
  | [d] => { results := [.lit (.bool false)], args := [d] }
  | _ => none }
def KeyMakesWrongFalsely : Prop := keyMakesRow.holds Try.pinned (OpenSpec.ofChange keyMakesWrong)

/-- 'screelaw02.KeyReads': WHATEVER THE INPUT: true; the input reads as it did. -/
def keyReadsSpec : ChangeSpec := { name := "keyReads", fn := fun _ => fun
  | [d] => { results := [.lit (.bool true)], args := [d] }
  | _ => none }
def keyReadsRow : OpenClaim := { program := "ytachminlgcndnaa", sum := "af756a734d64061cf883ebb7b0cdf16c3c95aa0e407e7610c65e60082884c7b7", func := "scree/screelaw02.KeyReads", spec := "keyReads", inPlace := ["internal/abi.NoEscape"], apart := false }
def KeyReadsSaid : Prop := keyReadsRow.holds Try.pinned (OpenSpec.ofChange keyReadsSpec)

/-- ITS FALSE NEIGHBOUR: 'it returns false'. Refute it at one input. -/
def keyReadsWrong : ChangeSpec := { name := "keyReads", fn := fun _ => fun
  | [d] => { results := [.lit (.bool false)], args := [d] }
  | _ => none }
def KeyReadsWrongFalsely : Prop := keyReadsRow.holds Try.pinned (OpenSpec.ofChange keyReadsWrong)

/-- 'screelaw02.KeyBack': WHATEVER THE INPUT: true; the input reads as it did. -/
def keyBackSpec : ChangeSpec := { name := "keyBack", fn := fun _ => fun
  | [d1, d2] => { results := [.lit (.bool true)], args := [d1, d2] }
  | _ => none }
def keyBackRow : OpenClaim := { program := "ytachminlgcndnaa", sum := "af756a734d64061cf883ebb7b0cdf16c3c95aa0e407e7610c65e60082884c7b7", func := "scree/screelaw02.KeyBack", spec := "keyBack", inPlace := ["internal/abi.NoEscape"], apart := false }
def KeyBackSaid : Prop := keyBackRow.holds Try.pinned (OpenSpec.ofChange keyBackSpec)

/-- ITS FALSE NEIGHBOUR: 'it returns false'. Refute it at one input. -/
def keyBackWrong : ChangeSpec := { name := "keyBack", fn := fun _ => fun
  | [d1, d2] => { results := [.lit (.bool false)], args := [d1, d2] }
  | _ => none }
def KeyBackWrongFalsely : Prop := keyBackRow.holds Try.pinned (OpenSpec.ofChange keyBackWrong)

/-- 'screelaw02.KeyOrder': WHATEVER THE INPUT: true; the input reads as it did. -/
def keyOrderSpec : ChangeSpec := { name := "keyOrder", fn := fun _ => fun
  | [d1, d2] => { results := [.lit (.bool true)], args := [d1, d2] }
  | _ => none }
def keyOrderRow : OpenClaim := { program := "ytachminlgcndnaa", sum := "af756a734d64061cf883ebb7b0cdf16c3c95aa0e407e7610c65e60082884c7b7", func := "scree/screelaw02.KeyOrder", spec := "keyOrder", inPlace := ["internal/abi.NoEscape"], apart := false }
def KeyOrderSaid : Prop := keyOrderRow.holds Try.pinned (OpenSpec.ofChange keyOrderSpec)

/-- ITS FALSE NEIGHBOUR: 'it returns false'. Refute it at one input. -/
def keyOrderWrong : ChangeSpec := { name := "keyOrder", fn := fun _ => fun
  | [d1, d2] => { results := [.lit (.bool false)], args := [d1, d2] }
  | _ => none }
def KeyOrderWrongFalsely : Prop := keyOrderRow.holds Try.pinned (OpenSpec.ofChange keyOrderWrong)

/-- 'screelaw02.KeyBounds': WHATEVER THE INPUT: true; the input reads as it did. -/
def keyBoundsSpec : ChangeSpec := { name := "keyBounds", fn := fun _ => fun
  | [d1, d2] => { results := [.lit (.bool true)], args := [d1, d2] }
  | _ => none }
def keyBoundsRow : OpenClaim := { program := "ytachminlgcndnaa", sum := "af756a734d64061cf883ebb7b0cdf16c3c95aa0e407e7610c65e60082884c7b7", func := "scree/screelaw02.KeyBounds", spec := "keyBounds", inPlace := ["internal/abi.NoEscape"], apart := false }
def KeyBoundsSaid : Prop := keyBoundsRow.holds Try.pinned (OpenSpec.ofChange keyBoundsSpec)

/-- ITS FALSE NEIGHBOUR: 'it returns false'. Refute it at one input. -/
def keyBoundsWrong : ChangeSpec := { name := "keyBounds", fn := fun _ => fun
  | [d1, d2] => { results := [.lit (.bool false)], args := [d1, d2] }
  | _ => none }
def KeyBoundsWrongFalsely : Prop := keyBoundsRow.holds Try.pinned (OpenSpec.ofChange keyBoundsWrong)

/-- 'screelaw02.KeyEscapes': WHATEVER THE INPUT: true; the input reads as it did. -/
def keyEscapesSpec : ChangeSpec := { name := "keyEscapes", fn := fun _ => fun
  | [d1, d2] => { results := [.lit (.bool true)], args := [d1, d2] }
  | _ => none }
def keyEscapesRow : OpenClaim := { program := "ytachminlgcndnaa", sum := "af756a734d64061cf883ebb7b0cdf16c3c95aa0e407e7610c65e60082884c7b7", func := "scree/screelaw02.KeyEscapes", spec := "keyEscapes", inPlace := ["internal/abi.NoEscape"], apart := false }
def KeyEscapesSaid : Prop := keyEscapesRow.holds Try.pinned (OpenSpec.ofChange keyEscapesSpec)

/-- ITS FALSE NEIGHBOUR: 'it returns false'. Refute it at one input. -/
def keyEscapesWrong : ChangeSpec := { name := "keyEscapes", fn := fun _ => fun
  | [d1, d2] => { results := [.lit (.bool false)], args := [d1, d2] }
  | _ => none }
def KeyEscapesWrongFalsely : Prop := keyEscapesRow.holds Try.pinned (OpenSpec.ofChange keyEscapesWrong)

/-- 'screelaw02.KeyBegins': WHATEVER THE INPUT: true; the input reads as it did. -/
def keyBeginsSpec : ChangeSpec := { name := "keyBegins", fn := fun _ => fun
  | [d] => { results := [.lit (.bool true)], args := [d] }
  | _ => none }
def keyBeginsRow : OpenClaim := { program := "ytachminlgcndnaa", sum := "af756a734d64061cf883ebb7b0cdf16c3c95aa0e407e7610c65e60082884c7b7", func := "scree/screelaw02.KeyBegins", spec := "keyBegins", inPlace := ["internal/abi.NoEscape"], apart := false }
def KeyBeginsSaid : Prop := keyBeginsRow.holds Try.pinned (OpenSpec.ofChange keyBeginsSpec)

/-- ITS FALSE NEIGHBOUR: 'it returns false'. Refute it at one input. -/
def keyBeginsWrong : ChangeSpec := { name := "keyBegins", fn := fun _ => fun
  | [d] => { results := [.lit (.bool false)], args := [d] }
  | _ => none }
def KeyBeginsWrongFalsely : Prop := keyBeginsRow.holds Try.pinned (OpenSpec.ofChange keyBeginsWrong)

/- THE SECOND FORM. 'bulk': how many values and letters a reading holds, each counted each time it is reached (what is shared counts as often as it is met; a slice's spare places count too). A statement '..UptoSaid' is the law's where the arguments, and the package variables that the reading takes, are together of bulk at most 1048576: NARROWER than '..Said'. Prove '..Said' where nothing that the law and all that it calls make is longer than what came in: it says more and counts as full. Else prove '..UptoSaid'. A law counts once. -/
mutual
def uptoBulk {H : Type} : DataW H → Nat
  | .lit (.string bytes) => bytes.length + 1
  | .lit _ => 1
  | .nil => 1
  | .ptr d => uptoBulk d + 1
  | .slice elems spare => uptoBulkAll elems + uptoBulkAll spare + 1
  | .agg parts => uptoBulkAll parts + 1
  | .iface _ d => uptoBulk d + 1
  | .map entries => uptoBulkEntries entries + 1
  | .held _ => 1
def uptoBulkAll {H : Type} : List (DataW H) → Nat
  | [] => 0
  | d :: r => uptoBulk d + uptoBulkAll r
def uptoBulkEntries {H : Type} : List (Lit × DataW H) → Nat
  | [] => 0
  | x :: r => uptoBulkEntry x + uptoBulkEntries r
def uptoBulkEntry {H : Type} : Lit × DataW H → Nat
  | (.string bytes, d) => bytes.length + uptoBulk d + 1
  | (_, d) => uptoBulk d + 1
 end
def uptoSmall : (H : Type) → List (DataW H) → Bool := fun _ ds => decide (uptoBulkAll ds ≤ 1048576)
def OpenSpec.upto (s : _root_.Go.ChangeSpec) : _root_.Go.OpenSpec := { _root_.Go.OpenSpec.ofChange s with cond := some uptoSmall }

/-- 'screelaw02.KeyMakes', WHERE WHAT IT READS IS OF BULK AT MOST 1048576: true; the input reads as it did. -/
def keyMakesUptoRow : OpenClaim := { program := "ytachminlgcndnaa", sum := "af756a734d64061cf883ebb7b0cdf16c3c95aa0e407e7610c65e60082884c7b7", func := "scree/screelaw02.KeyMakes", spec := "keyMakes", inPlace := ["internal/abi.NoEscape"], apart := false, narrowed := true }
def KeyMakesUptoSaid : Prop := keyMakesUptoRow.holds Try.pinned (OpenSpec.upto keyMakesSpec)

/-- 'screelaw02.KeyReads', WHERE WHAT IT READS IS OF BULK AT MOST 1048576: true; the input reads as it did. -/
def keyReadsUptoRow : OpenClaim := { program := "ytachminlgcndnaa", sum := "af756a734d64061cf883ebb7b0cdf16c3c95aa0e407e7610c65e60082884c7b7", func := "scree/screelaw02.KeyReads", spec := "keyReads", inPlace := ["internal/abi.NoEscape"], apart := false, narrowed := true }
def KeyReadsUptoSaid : Prop := keyReadsUptoRow.holds Try.pinned (OpenSpec.upto keyReadsSpec)

/-- 'screelaw02.KeyBack', WHERE WHAT IT READS IS OF BULK AT MOST 1048576: true; the input reads as it did. -/
def keyBackUptoRow : OpenClaim := { program := "ytachminlgcndnaa", sum := "af756a734d64061cf883ebb7b0cdf16c3c95aa0e407e7610c65e60082884c7b7", func := "scree/screelaw02.KeyBack", spec := "keyBack", inPlace := ["internal/abi.NoEscape"], apart := false, narrowed := true }
def KeyBackUptoSaid : Prop := keyBackUptoRow.holds Try.pinned (OpenSpec.upto keyBackSpec)

/-- 'screelaw02.KeyOrder', WHERE WHAT IT READS IS OF BULK AT MOST 1048576: true; the input reads as it did. -/
def keyOrderUptoRow : OpenClaim := { program := "ytachminlgcndnaa", sum := "af756a734d64061cf883ebb7b0cdf16c3c95aa0e407e7610c65e60082884c7b7", func := "scree/screelaw02.KeyOrder", spec := "keyOrder", inPlace := ["internal/abi.NoEscape"], apart := false, narrowed := true }
def KeyOrderUptoSaid : Prop := keyOrderUptoRow.holds Try.pinned (OpenSpec.upto keyOrderSpec)

/-- 'screelaw02.KeyBounds', WHERE WHAT IT READS IS OF BULK AT MOST 1048576: true; the input reads as it did. -/
def keyBoundsUptoRow : OpenClaim := { program := "ytachminlgcndnaa", sum := "af756a734d64061cf883ebb7b0cdf16c3c95aa0e407e7610c65e60082884c7b7", func := "scree/screelaw02.KeyBounds", spec := "keyBounds", inPlace := ["internal/abi.NoEscape"], apart := false, narrowed := true }
def KeyBoundsUptoSaid : Prop := keyBoundsUptoRow.holds Try.pinned (OpenSpec.upto keyBoundsSpec)

/-- 'screelaw02.KeyEscapes', WHERE WHAT IT READS IS OF BULK AT MOST 1048576: true; the input reads as it did. -/
def keyEscapesUptoRow : OpenClaim := { program := "ytachminlgcndnaa", sum := "af756a734d64061cf883ebb7b0cdf16c3c95aa0e407e7610c65e60082884c7b7", func := "scree/screelaw02.KeyEscapes", spec := "keyEscapes", inPlace := ["internal/abi.NoEscape"], apart := false, narrowed := true }
def KeyEscapesUptoSaid : Prop := keyEscapesUptoRow.holds Try.pinned (OpenSpec.upto keyEscapesSpec)

/-- 'screelaw02.KeyBegins', WHERE WHAT IT READS IS OF BULK AT MOST 1048576: true; the input reads as it did. -/
def keyBeginsUptoRow : OpenClaim := { program := "ytachminlgcndnaa", sum := "af756a734d64061cf883ebb7b0cdf16c3c95aa0e407e7610c65e60082884c7b7", func := "scree/screelaw02.KeyBegins", spec := "keyBegins", inPlace := ["internal/abi.NoEscape"], apart := false, narrowed := true }
def KeyBeginsUptoSaid : Prop := keyBeginsUptoRow.holds Try.pinned (OpenSpec.upto keyBeginsSpec)

end Rows
end Go.Proofs.Ytachminlgcndnaa
