/- The law ColReads is proved of what its code comes to: at every input it answers true. No condition but the row's own. -/
import Derived.Test.YteijlcnjnooiiaaColReads
namespace Go.Proofs.Yteijlcnjnooiiaa.Pure
theorem ColReads : P.screelaw15_ColReads.Pure := ColS.ColReads
end Go.Proofs.Yteijlcnjnooiiaa.Pure
