/- The law BloomOrder is proved of what its code comes to: at every input it answers true. No condition but the row's own. -/
import Derived.Test.YthgefbabajpelaaBloom6
import Derived.Test.YthgefbabajpelaaPdBloomOrder
namespace Go.Proofs.Ythgefbabajpelaa.Pure
theorem BloomOrder : P.screelaw10_BloomOrder.Stated := BloomS.BloomOrder
end Go.Proofs.Ythgefbabajpelaa.Pure
