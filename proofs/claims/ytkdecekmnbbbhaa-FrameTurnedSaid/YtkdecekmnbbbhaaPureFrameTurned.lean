/- The law FrameTurned is proved of what its code comes to: at every input it answers true. No condition but the row's own. -/
import Derived.Test.YtkdecekmnbbbhaaFrame7
import Derived.Test.YtkdecekmnbbbhaaPdFrameTurned
namespace Go.Proofs.Ytkdecekmnbbbhaa.Pure
theorem FrameTurned : P.screelaw04_FrameTurned.Stated := FrameS.FrameTurned
end Go.Proofs.Ytkdecekmnbbbhaa.Pure
