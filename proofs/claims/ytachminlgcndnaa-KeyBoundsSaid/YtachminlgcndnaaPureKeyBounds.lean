/- The law KeyBounds is proved of what its code comes to: at every input it answers true. No condition but the row's own. -/
import Derived.Test.YtachminlgcndnaaKey4
import Derived.Test.YtachminlgcndnaaPdKeyBounds
namespace Go.Proofs.Ytachminlgcndnaa.Pure
theorem KeyBounds : P.screelaw02_KeyBounds.Stated := KeyS.KeyBounds
end Go.Proofs.Ytachminlgcndnaa.Pure
