/- The law GcClears is proved of what its code comes to: at every input it answers true. No condition but the row's own. -/
import Derived.Test.YtcdadhgcjkgnoaaGcClears
import Derived.Test.YtcdadhgcjkgnoaaPdGcClears
namespace Go.Proofs.Ytcdadhgcjkgnoaa.Pure
theorem GcClears : P.screelaw17_GcClears.Stated := GcS.GcClears
end Go.Proofs.Ytcdadhgcjkgnoaa.Pure
