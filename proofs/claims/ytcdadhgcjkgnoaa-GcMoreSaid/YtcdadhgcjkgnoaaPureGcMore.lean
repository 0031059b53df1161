/- The law GcMore is proved of what its code comes to: at every input it answers true. No condition but the row's own. -/
import Derived.Test.YtcdadhgcjkgnoaaGcMore
import Derived.Test.YtcdadhgcjkgnoaaPdGcMore
namespace Go.Proofs.Ytcdadhgcjkgnoaa.Pure
theorem GcMore : P.screelaw17_GcMore.Stated := GcS.GcMore
end Go.Proofs.Ytcdadhgcjkgnoaa.Pure
