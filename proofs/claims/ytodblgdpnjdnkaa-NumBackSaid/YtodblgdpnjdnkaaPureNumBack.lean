/- The law NumBack is proved of what its code comes to: at every input it answers true. No condition but the row's own. -/
import Derived.Test.YtodblgdpnjdnkaaNum3
namespace Go.Proofs.Ytodblgdpnjdnkaa.Pure
theorem NumBack : P.screelaw01_NumBack.Pure := NumS.NumBack
end Go.Proofs.Ytodblgdpnjdnkaa.Pure
