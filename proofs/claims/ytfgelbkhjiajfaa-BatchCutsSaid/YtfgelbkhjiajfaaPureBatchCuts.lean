/- The law BatchCuts is proved of what its code comes to: at every input it answers true. No condition but the row's own. -/
import Derived.Test.YtfgelbkhjiajfaaBatL
import Derived.Test.YtfgelbkhjiajfaaPdBatchCuts
namespace Go.Proofs.Ytfgelbkhjiajfaa.Pure
theorem BatchCuts : P.screelaw05_BatchCuts.Stated := BatS.BatchCuts
end Go.Proofs.Ytfgelbkhjiajfaa.Pure
