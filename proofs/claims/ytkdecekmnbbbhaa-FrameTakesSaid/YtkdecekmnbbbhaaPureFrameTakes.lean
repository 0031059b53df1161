/- The law FrameTakes is proved of what its code comes to: at every input it answers true. No condition but the row's own. -/
import Derived.Test.YtkdecekmnbbbhaaFrame5
namespace Go.Proofs.Ytkdecekmnbbbhaa.Pure
theorem FrameTakes : P.screelaw04_FrameTakes.Pure := FrameS.FrameTakes
end Go.Proofs.Ytkdecekmnbbbhaa.Pure
