/- The law KeyEscapes is proved of what its code comes to: at every input it answers true. No condition but the row's own. -/
import Derived.Test.YtachminlgcndnaaKey4
import Derived.Test.YtachminlgcndnaaPdKeyEscapes
namespace Go.Proofs.Ytachminlgcndnaa.Pure
theorem KeyEscapes : P.screelaw02_KeyEscapes.Stated := KeyS.KeyEscapes
end Go.Proofs.Ytachminlgcndnaa.Pure
