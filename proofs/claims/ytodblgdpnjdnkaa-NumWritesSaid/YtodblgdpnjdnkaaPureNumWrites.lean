/- The law NumWrites is proved of what its code comes to: at every input it answers true. No condition but the row's own. -/
import Derived.Test.YtodblgdpnjdnkaaNum3
namespace Go.Proofs.Ytodblgdpnjdnkaa.Pure
theorem NumWrites : P.screelaw01_NumWrites.Pure := NumS.NumWrites
end Go.Proofs.Ytodblgdpnjdnkaa.Pure
