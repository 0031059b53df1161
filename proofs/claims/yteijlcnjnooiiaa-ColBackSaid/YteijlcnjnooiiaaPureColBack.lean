/- The law ColBack is proved of what its code comes to: at every input it answers true. No condition but the row's own. -/
import Derived.Test.YteijlcnjnooiiaaColBack
import Derived.Test.YteijlcnjnooiiaaPdColBack
namespace Go.Proofs.Yteijlcnjnooiiaa.Pure
theorem ColBack : P.screelaw15_ColBack.Stated := ColS.ColBack
end Go.Proofs.Yteijlcnjnooiiaa.Pure
