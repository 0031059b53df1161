/- The law BlockWhole is proved of what its code comes to: at every input it answers true. No condition but the row's own. -/
import Derived.Test.YtcogolbgfkikfaaBlkG
import Derived.Test.YtcogolbgfkikfaaPdBlockWhole
namespace Go.Proofs.Ytcogolbgfkikfaa.Pure
theorem BlockWhole : P.screelaw09_BlockWhole.Stated := BlkS.BlockWhole
end Go.Proofs.Ytcogolbgfkikfaa.Pure
