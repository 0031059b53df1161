/- The law FrameOne is proved of what its code comes to: at every input it answers true. No condition but the row's own. -/
import Derived.Test.YtkdecekmnbbbhaaFrame5
namespace Go.Proofs.Ytkdecekmnbbbhaa.Pure
theorem FrameOne : P.screelaw04_FrameOne.Pure := FrameS.FrameOne
end Go.Proofs.Ytkdecekmnbbbhaa.Pure
