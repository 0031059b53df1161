/- The law BatchMay is proved of what its code comes to: at every input it answers true. No condition but the row's own. -/
import Derived.Test.YtfgelbkhjiajfaaBatL
import Derived.Test.YtfgelbkhjiajfaaPdBatchMay
namespace Go.Proofs.Ytfgelbkhjiajfaa.Pure
theorem BatchMay : P.screelaw05_BatchMay.Stated := BatS.BatchMay
end Go.Proofs.Ytfgelbkhjiajfaa.Pure
