/- The law GcLocks is proved of what its code comes to: at every input it answers true. No condition but the row's own. -/
import Derived.Test.YtcdadhgcjkgnoaaGcLocks
import Derived.Test.YtcdadhgcjkgnoaaPdGcLocks
namespace Go.Proofs.Ytcdadhgcjkgnoaa.Pure
theorem GcLocks : P.screelaw17_GcLocks.Stated := GcS.GcLocks
end Go.Proofs.Ytcdadhgcjkgnoaa.Pure
