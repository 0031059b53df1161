/- The law GcTells is proved of what its code comes to: at every input it answers true. No condition but the row's own. -/
import Derived.Test.YtcdadhgcjkgnoaaGcTells
import Derived.Test.YtcdadhgcjkgnoaaPdGcTells
namespace Go.Proofs.Ytcdadhgcjkgnoaa.Pure
theorem GcTells : P.screelaw17_GcTells.Stated := GcS.GcTells
end Go.Proofs.Ytcdadhgcjkgnoaa.Pure
