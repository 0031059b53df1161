/- The law BatchReads is proved of what its code comes to: at every input it answers true. No condition but the row's own. -/
import Derived.Test.YtfgelbkhjiajfaaBatR
namespace Go.Proofs.Ytfgelbkhjiajfaa.Pure
theorem BatchReads : P.screelaw05_BatchReads.Pure := BatS.BatchReads
end Go.Proofs.Ytfgelbkhjiajfaa.Pure
