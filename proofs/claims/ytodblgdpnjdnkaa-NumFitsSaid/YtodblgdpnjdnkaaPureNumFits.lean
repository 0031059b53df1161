/- The law NumFits is proved of what its code comes to: at every input it answers true. No condition but the row's own. -/
import Derived.Test.YtodblgdpnjdnkaaNum3
namespace Go.Proofs.Ytodblgdpnjdnkaa.Pure
theorem NumFits : P.screelaw01_NumFits.Pure := NumS.NumFits
end Go.Proofs.Ytodblgdpnjdnkaa.Pure
