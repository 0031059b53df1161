/- The law ColOrder is proved of what its code comes to: at every input it answers true. No condition but the row's own. -/
import Derived.Test.YteijlcnjnooiiaaColOrder
import Derived.Test.YteijlcnjnooiiaaPdColOrder
namespace Go.Proofs.Yteijlcnjnooiiaa.Pure
theorem ColOrder : P.screelaw15_ColOrder.Stated := ColS.ColOrder
end Go.Proofs.Yteijlcnjnooiiaa.Pure
