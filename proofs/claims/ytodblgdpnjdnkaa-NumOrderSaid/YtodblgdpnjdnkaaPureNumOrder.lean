/- The law NumOrder is proved of what its code comes to: at every input it answers true. No condition but the row's own. -/
import Derived.Test.YtodblgdpnjdnkaaNum3
namespace Go.Proofs.Ytodblgdpnjdnkaa.Pure
theorem NumOrder : P.screelaw01_NumOrder.Pure := NumS.NumOrder
end Go.Proofs.Ytodblgdpnjdnkaa.Pure
