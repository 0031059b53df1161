/- The law BloomMore is proved of what its code comes to: at every input it answers true. No condition but the row's own. -/
import Derived.Test.YthgefbabajpelaaBloomM
import Derived.Test.YthgefbabajpelaaPdBloomMore
namespace Go.Proofs.Ythgefbabajpelaa.Pure
theorem BloomMore : P.screelaw10_BloomMore.Stated := BloomS.BloomMore
end Go.Proofs.Ythgefbabajpelaa.Pure
