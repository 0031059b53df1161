/- The law KeyReads is proved of what its code comes to: at every input it answers true. No condition but the row's own. -/
import Derived.Test.YtachminlgcndnaaKey4
namespace Go.Proofs.Ytachminlgcndnaa.Pure
theorem KeyReads : P.screelaw02_KeyReads.Pure := KeyS.KeyReads
end Go.Proofs.Ytachminlgcndnaa.Pure
