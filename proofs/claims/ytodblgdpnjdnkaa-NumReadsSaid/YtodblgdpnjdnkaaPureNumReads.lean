/- The law NumReads is proved of what its code comes to: at every input it answers true. No condition but the row's own. -/
import Derived.Test.YtodblgdpnjdnkaaNum3
namespace Go.Proofs.Ytodblgdpnjdnkaa.Pure
theorem NumReads : P.screelaw01_NumReads.Pure := NumS.NumReads
end Go.Proofs.Ytodblgdpnjdnkaa.Pure
