-- Out of the words that the kit's print lays (print.sh): theorems that this seat's claims don't use are struck out by a program of this session's own (wip/tools/shake.py).
import Derived.Test.YtcdadhgcjkgnoaaWWords
import Derived.Laws.StructEq
/-! ### 53. '==' of structs as_ one Bool -/
namespace Go.Proofs.YtcdadhgcjkgnoaaW.PrintWords
open Go.RowKit
section
variable {P : Program} {d : Nat} {xs ys : Array Value} {f : Field} {fs : List Field} {a b : Value} {r s : Bool} {w : World}
end
end Go.Proofs.YtcdadhgcjkgnoaaW.PrintWords
