/- The law KeyOrder is proved of what its code comes to: at every input it answers true. No condition but the row's own. -/
import Derived.Test.YtachminlgcndnaaKey3b
import Derived.Test.YtachminlgcndnaaPdKeyOrder
namespace Go.Proofs.Ytachminlgcndnaa.Pure
theorem KeyOrder : P.screelaw02_KeyOrder.Stated := KeyS.KeyOrder
end Go.Proofs.Ytachminlgcndnaa.Pure
