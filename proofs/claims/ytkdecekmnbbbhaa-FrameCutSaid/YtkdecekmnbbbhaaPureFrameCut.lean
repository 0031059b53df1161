/- The law FrameCut is proved of what its code comes to: at every input it answers true. No condition but the row's own. -/
import Derived.Test.YtkdecekmnbbbhaaFrame5
import Derived.Test.YtkdecekmnbbbhaaPdFrameCut
namespace Go.Proofs.Ytkdecekmnbbbhaa.Pure
theorem FrameCut : P.screelaw04_FrameCut.Stated := FrameS.FrameCut
end Go.Proofs.Ytkdecekmnbbbhaa.Pure
