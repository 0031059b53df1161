/-
  No cell of these rows narrows 'for every input' (looked for: loops, veiled, ifaces, maps, wideKeys, modest, calm, conditions, laid).
  DERIVED. THE GIVEN ROWS OF THIS SEAT. 7 by the template 'for every input the law returns true; each argument reads behind the call as it read before'; 0 by the template 'total and deterministic' (their statements: YtcdadhgcjkgnoaaTotals.lean).
  GIVEN WITH THE SEED: the statements are not yours to turn. If you find one false, say at which input.
  Laid BY PROGRAM, IN A SANDBOX (cutbox-rows.mjs): the forced cells as the released guide's own fill.sh prints them over the translation ec42513f2525f3e4… (all of the seat's roots in one cut). By AI agents, Wed Nov 11 2026. No macro, syntax, notation, axiom, sorry.
-/
import Derived.Test.YtcdadhgcjkgnoaaChecked
import GoSem.Claim
import GoSem.ClaimJoined
import GoSem.ClaimMapViews
import Derived.JoinedTies
import Derived.KernelRfl
namespace Go.Proofs.Ytcdadhgcjkgnoaa
/- THE CELL 'sum', in the pinned program and in every row, IS THE sha256 OF THE DUMP (.gsa) THAT YtcdadhgcjkgnoaaProg.lean LOADS. Nothing in Lean hashes anything: it is a label: what it is worth is what the hold of that sum in a sandbox is worth. -/
noncomputable def Try.pinned : Pinned := { name := "ytcdadhgcjkgnoaa", sum := "ec42513f2525f3e4738447f9476f91f2bdb49d77b536cec43bf5a18aa00ff5f0", checked := Try.checked }
namespace Rows
def none {H : Type} : Left H := { results := [], args := [] }

/-- 'screelaw17.GcTells': WHATEVER THE INPUT: true; the input reads as it did. -/
def gcTellsSpec : ChangeSpec := { name := "gcTells", fn := fun _ => fun
  | [d1, d2, d3, d4] => { results := [.lit (.bool true)], args := [d1, d2, d3, d4] }
  | _ => none }
def gcTellsRow : OpenClaim := { program := "ytcdadhgcjkgnoaa", sum := "ec42513f2525f3e4738447f9476f91f2bdb49d77b536cec43bf5a18aa00ff5f0", func := "scree/screelaw17.GcTells", spec := "gcTells", inPlace := ["internal/abi.NoEscape"], unfollowed := true, recurses := true, plainKeys := false, apart := false }
def GcTellsSaid : Prop := gcTellsRow.holds Try.pinned (OpenSpec.ofChange gcTellsSpec)

/-- ITS FALSE NEIGHBOUR: 'it returns false'. Refute it at one input. -/
def gcTellsWrong : ChangeSpec := { name := "gcTells", fn := fun _ => fun
  | [d1, d2, d3, d4] => { results := [.lit (.bool false)], args := [d1, d2, d3, d4] }
  | _ => none }
def GcTellsWrongFalsely : Prop := gcTellsRow.holds Try.pinned (OpenSpec.ofChange gcTellsWrong)

/-- 'screelaw17.GcSees': WHATEVER THE INPUT: true; the input reads as it did. -/
def gcSeesSpec : ChangeSpec := { name := "gcSees", fn := fun _ => fun
  | [d1, d2, d3, d4] => { results := [.lit (.bool true)], args := [d1, d2, d3, d4] }
  | _ => none }
def gcSeesRow : OpenClaim := { program := "ytcdadhgcjkgnoaa", sum := "ec42513f2525f3e4738447f9476f91f2bdb49d77b536cec43bf5a18aa00ff5f0", func := "scree/screelaw17.GcSees", spec := "gcSees", inPlace := ["internal/abi.NoEscape"], unfollowed := true, recurses := true, plainKeys := false, apart := false }
def GcSeesSaid : Prop := gcSeesRow.holds Try.pinned (OpenSpec.ofChange gcSeesSpec)

/-- ITS FALSE NEIGHBOUR: 'it returns false'. Refute it at one input. -/
def gcSeesWrong : ChangeSpec := { name := "gcSees", fn := fun _ => fun
  | [d1, d2, d3, d4] => { results := [.lit (.bool false)], args := [d1, d2, d3, d4] }
  | _ => none }
def GcSeesWrongFalsely : Prop := gcSeesRow.holds Try.pinned (OpenSpec.ofChange gcSeesWrong)

/-- 'screelaw17.GcClears': WHATEVER THE INPUT: true; the input reads as it did. -/
def gcClearsSpec : ChangeSpec := { name := "gcClears", fn := fun _ => fun
  | [d1, d2] => { results := [.lit (.bool true)], args := [d1, d2] }
  | _ => none }
def gcClearsRow : OpenClaim := { program := "ytcdadhgcjkgnoaa", sum := "ec42513f2525f3e4738447f9476f91f2bdb49d77b536cec43bf5a18aa00ff5f0", func := "scree/screelaw17.GcClears", spec := "gcClears", inPlace := ["internal/abi.NoEscape"], unfollowed := true, recurses := true, plainKeys := false, apart := false }
def GcClearsSaid : Prop := gcClearsRow.holds Try.pinned (OpenSpec.ofChange gcClearsSpec)

/-- ITS FALSE NEIGHBOUR: 'it returns false'. Refute it at one input. -/
def gcClearsWrong : ChangeSpec := { name := "gcClears", fn := fun _ => fun
  | [d1, d2] => { results := [.lit (.bool false)], args := [d1, d2] }
  | _ => none }
def GcClearsWrongFalsely : Prop := gcClearsRow.holds Try.pinned (OpenSpec.ofChange gcClearsWrong)

/-- 'screelaw17.GcParts': WHATEVER THE INPUT: true; the input reads as it did. -/
def gcPartsSpec : ChangeSpec := { name := "gcParts", fn := fun _ => fun
  | [d1, d2] => { results := [.lit (.bool true)], args := [d1, d2] }
  | _ => none }
def gcPartsRow : OpenClaim := { program := "ytcdadhgcjkgnoaa", sum := "ec42513f2525f3e4738447f9476f91f2bdb49d77b536cec43bf5a18aa00ff5f0", func := "scree/screelaw17.GcParts", spec := "gcParts", inPlace := ["internal/abi.NoEscape"], unfollowed := true, recurses := true, plainKeys := false, apart := false }
def GcPartsSaid : Prop := gcPartsRow.holds Try.pinned (OpenSpec.ofChange gcPartsSpec)

/-- ITS FALSE NEIGHBOUR: 'it returns false'. Refute it at one input. -/
def gcPartsWrong : ChangeSpec := { name := "gcParts", fn := fun _ => fun
  | [d1, d2] => { results := [.lit (.bool false)], args := [d1, d2] }
  | _ => none }
def GcPartsWrongFalsely : Prop := gcPartsRow.holds Try.pinned (OpenSpec.ofChange gcPartsWrong)

/-- 'screelaw17.GcMore': WHATEVER THE INPUT: true; the input reads as it did. -/
def gcMoreSpec : ChangeSpec := { name := "gcMore", fn := fun _ => fun
  | [d1, d2, d3] => { results := [.lit (.bool true)], args := [d1, d2, d3] }
  | _ => none }
def gcMoreRow : OpenClaim := { program := "ytcdadhgcjkgnoaa", sum := "ec42513f2525f3e4738447f9476f91f2bdb49d77b536cec43bf5a18aa00ff5f0", func := "scree/screelaw17.GcMore", spec := "gcMore", inPlace := ["internal/abi.NoEscape"], unfollowed := true, recurses := true, plainKeys := false, apart := false }
def GcMoreSaid : Prop := gcMoreRow.holds Try.pinned (OpenSpec.ofChange gcMoreSpec)

/-- ITS FALSE NEIGHBOUR: 'it returns false'. Refute it at one input. -/
def gcMoreWrong : ChangeSpec := { name := "gcMore", fn := fun _ => fun
  | [d1, d2, d3] => { results := [.lit (.bool false)], args := [d1, d2, d3] }
  | _ => none }
def GcMoreWrongFalsely : Prop := gcMoreRow.holds Try.pinned (OpenSpec.ofChange gcMoreWrong)

/-- 'screelaw17.GcLocks': WHATEVER THE INPUT: true; the input reads as it did. -/
def gcLocksSpec : ChangeSpec := { name := "gcLocks", fn := fun _ => fun
  | [d1, d2] => { results := [.lit (.bool true)], args := [d1, d2] }
  | _ => none }
def gcLocksRow : OpenClaim := { program := "ytcdadhgcjkgnoaa", sum := "ec42513f2525f3e4738447f9476f91f2bdb49d77b536cec43bf5a18aa00ff5f0", func := "scree/screelaw17.GcLocks", spec := "gcLocks", inPlace := ["internal/abi.NoEscape"], unfollowed := true, recurses := true, plainKeys := false, apart := false }
def GcLocksSaid : Prop := gcLocksRow.holds Try.pinned (OpenSpec.ofChange gcLocksSpec)

/-- ITS FALSE NEIGHBOUR: 'it returns false'. Refute it at one input. -/
def gcLocksWrong : ChangeSpec := { name := "gcLocks", fn := fun _ => fun
  | [d1, d2] => { results := [.lit (.bool false)], args := [d1, d2] }
  | _ => none }
def GcLocksWrongFalsely : Prop := gcLocksRow.holds Try.pinned (OpenSpec.ofChange gcLocksWrong)

/-- 'screelaw17.GcUsers': WHATEVER THE INPUT: true; the input reads as it did. -/
def gcUsersSpec : ChangeSpec := { name := "gcUsers", fn := fun _ => fun
  | [d1, d2, d3] => { results := [.lit (.bool true)], args := [d1, d2, d3] }
  | _ => none }
def gcUsersRow : OpenClaim := { program := "ytcdadhgcjkgnoaa", sum := "ec42513f2525f3e4738447f9476f91f2bdb49d77b536cec43bf5a18aa00ff5f0", func := "scree/screelaw17.GcUsers", spec := "gcUsers", inPlace := ["internal/abi.NoEscape"], unfollowed := true, recurses := true, plainKeys := false, apart := false }
def GcUsersSaid : Prop := gcUsersRow.holds Try.pinned (OpenSpec.ofChange gcUsersSpec)

/-- ITS FALSE NEIGHBOUR: 'it returns false'. Refute it at one input. -/
def gcUsersWrong : ChangeSpec := { name := "gcUsers", fn := fun _ => fun
  | [d1, d2, d3] => { results := [.lit (.bool false)], args := [d1, d2, d3] }
  | _ => none }
def GcUsersWrongFalsely : Prop := gcUsersRow.holds Try.pinned (OpenSpec.ofChange gcUsersWrong)

/- THE SECOND FORM. 'bulk': how many values and letters a reading holds, each counted each time it is reached (what is shared counts as often as it is met; a slice's spare places count too). A statement '..UptoSaid' is the law's where the arguments, and the package variables that the reading takes, are together of bulk at most 1048576: NARROWER than '..Said'. Prove '..Said' where nothing that the law and all that it calls make is longer than what came in: it says more and counts as full. Else prove '..UptoSaid'. A law counts once. -/
mutual
def uptoBulk {H : Type} : DataW H → Nat
  | .lit (.string bytes) => bytes.length + 1
  | .lit _ => 1
  | .nil => 1
  | .ptr d => uptoBulk d + 1
  | .slice elems spare => uptoBulkAll elems + uptoBulkAll spare + 1
  | .agg parts => uptoBulkAll parts + 1
  | .iface _ d => uptoBulk d + 1
  | .map entries => uptoBulkEntries entries + 1
  | .held _ => 1
def uptoBulkAll {H : Type} : List (DataW H) → Nat
  | [] => 0
  | d :: r => uptoBulk d + uptoBulkAll r
def uptoBulkEntries {H : Type} : List (Lit × DataW H) → Nat
  | [] => 0
  | x :: r => uptoBulkEntry x + uptoBulkEntries r
def uptoBulkEntry {H : Type} : Lit × DataW H → Nat
  | (.string bytes, d) => bytes.length + uptoBulk d + 1
  | (_, d) => uptoBulk d + 1
 end
def uptoSmall : (H : Type) → List (DataW H) → Bool := fun _ ds => decide (uptoBulkAll ds ≤ 1048576)
def OpenSpec.upto (s : _root_.Go.ChangeSpec) : _root_.Go.OpenSpec := { _root_.Go.OpenSpec.ofChange s with cond := some uptoSmall }

/-- 'screelaw17.GcTells', WHERE WHAT IT READS IS OF BULK AT MOST 1048576: true; the input reads as it did. -/
def gcTellsUptoRow : OpenClaim := { program := "ytcdadhgcjkgnoaa", sum := "ec42513f2525f3e4738447f9476f91f2bdb49d77b536cec43bf5a18aa00ff5f0", func := "scree/screelaw17.GcTells", spec := "gcTells", inPlace := ["internal/abi.NoEscape"], unfollowed := true, recurses := true, plainKeys := false, apart := false, narrowed := true }
def GcTellsUptoSaid : Prop := gcTellsUptoRow.holds Try.pinned (OpenSpec.upto gcTellsSpec)

/-- 'screelaw17.GcSees', WHERE WHAT IT READS IS OF BULK AT MOST 1048576: true; the input reads as it did. -/
def gcSeesUptoRow : OpenClaim := { program := "ytcdadhgcjkgnoaa", sum := "ec42513f2525f3e4738447f9476f91f2bdb49d77b536cec43bf5a18aa00ff5f0", func := "scree/screelaw17.GcSees", spec := "gcSees", inPlace := ["internal/abi.NoEscape"], unfollowed := true, recurses := true, plainKeys := false, apart := false, narrowed := true }
def GcSeesUptoSaid : Prop := gcSeesUptoRow.holds Try.pinned (OpenSpec.upto gcSeesSpec)

/-- 'screelaw17.GcClears', WHERE WHAT IT READS IS OF BULK AT MOST 1048576: true; the input reads as it did. -/
def gcClearsUptoRow : OpenClaim := { program := "ytcdadhgcjkgnoaa", sum := "ec42513f2525f3e4738447f9476f91f2bdb49d77b536cec43bf5a18aa00ff5f0", func := "scree/screelaw17.GcClears", spec := "gcClears", inPlace := ["internal/abi.NoEscape"], unfollowed := true, recurses := true, plainKeys := false, apart := false, narrowed := true }
def GcClearsUptoSaid : Prop := gcClearsUptoRow.holds Try.pinned (OpenSpec.upto gcClearsSpec)

/-- 'screelaw17.GcParts', WHERE WHAT IT READS IS OF BULK AT MOST 1048576: true; the input reads as it did. -/
def gcPartsUptoRow : OpenClaim := { program := "ytcdadhgcjkgnoaa", sum := "ec42513f2525f3e4738447f9476f91f2bdb49d77b536cec43bf5a18aa00ff5f0", func := "scree/screelaw17.GcParts", spec := "gcParts", inPlace := ["internal/abi.NoEscape"], unfollowed := true, recurses := true, plainKeys := false, apart := false, narrowed := true }
def GcPartsUptoSaid : Prop := gcPartsUptoRow.holds Try.pinned (OpenSpec.upto gcPartsSpec)

/-- 'screelaw17.GcMore', WHERE WHAT IT READS IS OF BULK AT MOST 1048576: true; the input reads as it did. -/
def gcMoreUptoRow : OpenClaim := { program := "ytcdadhgcjkgnoaa", sum := "ec42513f2525f3e4738447f9476f91f2bdb49d77b536cec43bf5a18aa00ff5f0", func := "scree/screelaw17.GcMore", spec := "gcMore", inPlace := ["internal/abi.NoEscape"], unfollowed := true, recurses := true, plainKeys := false, apart := false, narrowed := true }
def GcMoreUptoSaid : Prop := gcMoreUptoRow.holds Try.pinned (OpenSpec.upto gcMoreSpec)

/-- 'screelaw17.GcLocks', WHERE WHAT IT READS IS OF BULK AT MOST 1048576: true; the input reads as it did. -/
def gcLocksUptoRow : OpenClaim := { program := "ytcdadhgcjkgnoaa", sum := "ec42513f2525f3e4738447f9476f91f2bdb49d77b536cec43bf5a18aa00ff5f0", func := "scree/screelaw17.GcLocks", spec := "gcLocks", inPlace := ["internal/abi.NoEscape"], unfollowed := true, recurses := true, plainKeys := false, apart := false, narrowed := true }
def GcLocksUptoSaid : Prop := gcLocksUptoRow.holds Try.pinned (OpenSpec.upto gcLocksSpec)

/-- 'screelaw17.GcUsers', WHERE WHAT IT READS IS OF BULK AT MOST 1048576: true; the input reads as it did. -/
def gcUsersUptoRow : OpenClaim := { program := "ytcdadhgcjkgnoaa", sum := "ec42513f2525f3e4738447f9476f91f2bdb49d77b536cec43bf5a18aa00ff5f0", func := "scree/screelaw17.GcUsers", spec := "gcUsers", inPlace := ["internal/abi.NoEscape"], unfollowed := true, recurses := true, plainKeys := false, apart := false, narrowed := true }
def GcUsersUptoSaid : Prop := gcUsersUptoRow.holds Try.pinned (OpenSpec.upto gcUsersSpec)

end Rows
end Go.Proofs.Ytcdadhgcjkgnoaa
