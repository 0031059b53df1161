/- The law BatchWrites is proved of what its code comes to: at every input it answers true. No condition but the row's own. -/
import Derived.Test.YtfgelbkhjiajfaaBatR
import Derived.Test.YtfgelbkhjiajfaaPdBatchWrites
namespace Go.Proofs.Ytfgelbkhjiajfaa.Pure
theorem BatchWrites : P.screelaw05_BatchWrites.Stated := BatS.BatchWrites
end Go.Proofs.Ytfgelbkhjiajfaa.Pure
