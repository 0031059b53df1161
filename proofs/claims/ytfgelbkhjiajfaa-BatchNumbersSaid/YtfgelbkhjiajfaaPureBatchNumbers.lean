/- The law BatchNumbers is proved of what its code comes to: at every input it answers true. No condition but the row's own. -/
import Derived.Test.YtfgelbkhjiajfaaBatL
import Derived.Test.YtfgelbkhjiajfaaPdBatchNumbers
namespace Go.Proofs.Ytfgelbkhjiajfaa.Pure
theorem BatchNumbers : P.screelaw05_BatchNumbers.Stated := BatS.BatchNumbers
end Go.Proofs.Ytfgelbkhjiajfaa.Pure
