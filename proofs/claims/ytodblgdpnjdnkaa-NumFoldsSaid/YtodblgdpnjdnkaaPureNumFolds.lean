/- The law NumFolds is proved of what its code comes to: at every input it answers true. No condition but the row's own. -/
import Derived.Test.YtodblgdpnjdnkaaNum3
namespace Go.Proofs.Ytodblgdpnjdnkaa.Pure
theorem NumFolds : P.screelaw01_NumFolds.Pure := NumS.NumFolds
end Go.Proofs.Ytodblgdpnjdnkaa.Pure
