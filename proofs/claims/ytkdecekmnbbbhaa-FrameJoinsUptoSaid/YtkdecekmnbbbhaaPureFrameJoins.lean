/- The law FrameJoins is proved of what its code comes to: at every input it answers true. No condition but the row's own. -/
import Derived.Test.YtkdecekmnbbbhaaFrame6
import Derived.Test.YtkdecekmnbbbhaaPdFrameJoins
namespace Go.Proofs.Ytkdecekmnbbbhaa.Pure
theorem FrameJoins : P.screelaw04_FrameJoins.Stated := FrameS.FrameJoins
end Go.Proofs.Ytkdecekmnbbbhaa.Pure
