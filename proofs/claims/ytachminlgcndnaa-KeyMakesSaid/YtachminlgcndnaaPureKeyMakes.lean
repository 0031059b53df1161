/- The law KeyMakes is proved of what its code comes to: at every input it answers true. No condition but the row's own. -/
import Derived.Test.YtachminlgcndnaaKey3b
import Derived.Test.YtachminlgcndnaaPdKeyMakes
namespace Go.Proofs.Ytachminlgcndnaa.Pure
theorem KeyMakes : P.screelaw02_KeyMakes.Stated := KeyS.KeyMakes
end Go.Proofs.Ytachminlgcndnaa.Pure
