/- The law ColShort is proved of what its code comes to: at every input it answers true. No condition but the row's own. -/
import Derived.Test.YteijlcnjnooiiaaColShort
import Derived.Test.YteijlcnjnooiiaaPdColShort
namespace Go.Proofs.Yteijlcnjnooiiaa.Pure
theorem ColShort : P.screelaw15_ColShort.Stated := ColS.ColShort
end Go.Proofs.Yteijlcnjnooiiaa.Pure
