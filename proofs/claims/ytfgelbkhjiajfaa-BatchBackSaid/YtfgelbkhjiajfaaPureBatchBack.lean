/- The law BatchBack is proved of what its code comes to: at every input it answers true. No condition but the row's own. -/
import Derived.Test.YtfgelbkhjiajfaaBatL
import Derived.Test.YtfgelbkhjiajfaaPdBatchBack
namespace Go.Proofs.Ytfgelbkhjiajfaa.Pure
theorem BatchBack : P.screelaw05_BatchBack.Stated := BatS.BatchBack
end Go.Proofs.Ytfgelbkhjiajfaa.Pure
