/- The law ColApart is proved of what its code comes to: at every input it answers true. No condition but the row's own. -/
import Derived.Test.YteijlcnjnooiiaaColApart
import Derived.Test.YteijlcnjnooiiaaPdColApart
namespace Go.Proofs.Yteijlcnjnooiiaa.Pure
theorem ColApart : P.screelaw15_ColApart.Stated := ColS.ColApart
end Go.Proofs.Yteijlcnjnooiiaa.Pure
