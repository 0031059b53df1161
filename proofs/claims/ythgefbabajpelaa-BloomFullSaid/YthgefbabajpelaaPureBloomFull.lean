/- The law BloomFull is proved of what its code comes to: at every input it answers true. No condition but the row's own. -/
import Derived.Test.YthgefbabajpelaaBloomF
import Derived.Test.YthgefbabajpelaaPdBloomFull
namespace Go.Proofs.Ythgefbabajpelaa.Pure
theorem BloomFull : P.screelaw10_BloomFull.Stated := BloomS.BloomFull
end Go.Proofs.Ythgefbabajpelaa.Pure
