/- The law GcParts is proved of what its code comes to: at every input it answers true. No condition but the row's own. -/
import Derived.Test.YtcdadhgcjkgnoaaGcParts
import Derived.Test.YtcdadhgcjkgnoaaPdGcParts
namespace Go.Proofs.Ytcdadhgcjkgnoaa.Pure
theorem GcParts : P.screelaw17_GcParts.Stated := GcS.GcParts
end Go.Proofs.Ytcdadhgcjkgnoaa.Pure
