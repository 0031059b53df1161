/- The law BloomBits is proved of what its code comes to: at every input it answers true. No condition but the row's own. -/
import Derived.Test.YthgefbabajpelaaBloom6
namespace Go.Proofs.Ythgefbabajpelaa.Pure
theorem BloomBits : P.screelaw10_BloomBits.Pure := BloomS.BloomBits
end Go.Proofs.Ythgefbabajpelaa.Pure
