/- The law GcSees is proved of what its code comes to: at every input it answers true. No condition but the row's own. -/
import Derived.Test.YtcdadhgcjkgnoaaGcSees
import Derived.Test.YtcdadhgcjkgnoaaPdGcSees
namespace Go.Proofs.Ytcdadhgcjkgnoaa.Pure
theorem GcSees : P.screelaw17_GcSees.Stated := GcS.GcSees
end Go.Proofs.Ytcdadhgcjkgnoaa.Pure
