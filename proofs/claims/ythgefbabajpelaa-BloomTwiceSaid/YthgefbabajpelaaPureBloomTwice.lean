/- The law BloomTwice is proved of what its code comes to: at every input it answers true. No condition but the row's own. -/
import Derived.Test.YthgefbabajpelaaBloom6
namespace Go.Proofs.Ythgefbabajpelaa.Pure
theorem BloomTwice : P.screelaw10_BloomTwice.Pure := BloomS.BloomTwice
end Go.Proofs.Ythgefbabajpelaa.Pure
