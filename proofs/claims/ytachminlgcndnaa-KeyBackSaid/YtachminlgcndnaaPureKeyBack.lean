/- The law KeyBack is proved of what its code comes to: at every input it answers true. No condition but the row's own. -/
import Derived.Test.YtachminlgcndnaaKey3b
import Derived.Test.YtachminlgcndnaaPdKeyBack
namespace Go.Proofs.Ytachminlgcndnaa.Pure
theorem KeyBack : P.screelaw02_KeyBack.Stated := KeyS.KeyBack
end Go.Proofs.Ytachminlgcndnaa.Pure
