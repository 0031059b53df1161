/- The law FrameReads is proved of what its code comes to: at every input it answers true. No condition but the row's own. -/
import Derived.Test.YtkdecekmnbbbhaaFrame4
import Derived.Test.YtkdecekmnbbbhaaPdFrameReads
namespace Go.Proofs.Ytkdecekmnbbbhaa.Pure
theorem FrameReads : P.screelaw04_FrameReads.Stated := FrameS.FrameReads
end Go.Proofs.Ytkdecekmnbbbhaa.Pure
