/- The law GcUsers is proved of what its code comes to: at every input it answers true. No condition but the row's own. -/
import Derived.Test.YtcdadhgcjkgnoaaGcUsers
import Derived.Test.YtcdadhgcjkgnoaaPdGcUsers
namespace Go.Proofs.Ytcdadhgcjkgnoaa.Pure
theorem GcUsers : P.screelaw17_GcUsers.Stated := GcS.GcUsers
end Go.Proofs.Ytcdadhgcjkgnoaa.Pure
