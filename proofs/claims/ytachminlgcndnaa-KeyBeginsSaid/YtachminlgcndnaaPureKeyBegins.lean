/- The law KeyBegins is proved of what its code comes to: at every input it answers true. No condition but the row's own. -/
import Derived.Test.YtachminlgcndnaaKey4
import Derived.Test.YtachminlgcndnaaPdKeyBegins
namespace Go.Proofs.Ytachminlgcndnaa.Pure
theorem KeyBegins : P.screelaw02_KeyBegins.Stated := KeyS.KeyBegins
end Go.Proofs.Ytachminlgcndnaa.Pure
