/- The law BloomHas is proved of what its code comes to: at every input it answers true. No condition but the row's own. -/
import Derived.Test.YthgefbabajpelaaBloom6
import Derived.Test.YthgefbabajpelaaPdBloomHas
namespace Go.Proofs.Ythgefbabajpelaa.Pure
theorem BloomHas : P.screelaw10_BloomHas.Stated := BloomS.BloomHas
end Go.Proofs.Ythgefbabajpelaa.Pure
