/- The law ColWrites is proved of what its code comes to: at every input it answers true. No condition but the row's own. -/
import Derived.Test.YteijlcnjnooiiaaColWrites
import Derived.Test.YteijlcnjnooiiaaPdColWrites
namespace Go.Proofs.Yteijlcnjnooiiaa.Pure
theorem ColWrites : P.screelaw15_ColWrites.Stated := ColS.ColWrites
end Go.Proofs.Yteijlcnjnooiiaa.Pure
