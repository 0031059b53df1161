/- The law BatchApart is proved of what its code comes to: at every input it answers true. No condition but the row's own. -/
import Derived.Test.YtfgelbkhjiajfaaBatL
import Derived.Test.YtfgelbkhjiajfaaPdBatchApart
namespace Go.Proofs.Ytfgelbkhjiajfaa.Pure
theorem BatchApart : P.screelaw05_BatchApart.Stated := BatS.BatchApart
end Go.Proofs.Ytfgelbkhjiajfaa.Pure
