/- The law BloomTells is proved of what its code comes to: at every input it answers true. No condition but the row's own. -/
import Derived.Test.YthgefbabajpelaaBloom6
import Derived.Test.YthgefbabajpelaaPdBloomTells
namespace Go.Proofs.Ythgefbabajpelaa.Pure
theorem BloomTells : P.screelaw10_BloomTells.Stated := BloomS.BloomTells
end Go.Proofs.Ythgefbabajpelaa.Pure
