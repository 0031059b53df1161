/- The law NumLengths is proved of what its code comes to: at every input it answers true. No condition but the row's own. -/
import Derived.Test.YtodblgdpnjdnkaaNum3
namespace Go.Proofs.Ytodblgdpnjdnkaa.Pure
theorem NumLengths : P.screelaw01_NumLengths.Pure := NumS.NumLengths
end Go.Proofs.Ytodblgdpnjdnkaa.Pure
