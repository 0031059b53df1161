/- The law ColAlone is proved of what its code comes to: at every input it answers true. No condition but the row's own. -/
import Derived.Test.YteijlcnjnooiiaaColAlone
import Derived.Test.YteijlcnjnooiiaaPdColAlone
namespace Go.Proofs.Yteijlcnjnooiiaa.Pure
theorem ColAlone : P.screelaw15_ColAlone.Stated := ColS.ColAlone
end Go.Proofs.Yteijlcnjnooiiaa.Pure
