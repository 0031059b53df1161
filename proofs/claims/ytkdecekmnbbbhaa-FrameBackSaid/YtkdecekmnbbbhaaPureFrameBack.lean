/- The law FrameBack is proved of what its code comes to: at every input it answers true. No condition but the row's own. -/
import Derived.Test.YtkdecekmnbbbhaaFrame4
import Derived.Test.YtkdecekmnbbbhaaPdFrameBack
namespace Go.Proofs.Ytkdecekmnbbbhaa.Pure
theorem FrameBack : P.screelaw04_FrameBack.Stated := FrameS.FrameBack
end Go.Proofs.Ytkdecekmnbbbhaa.Pure
