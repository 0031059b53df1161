/- The law BlockWrites is proved of what its code comes to: at every input it answers true. No condition but the row's own. -/
import Derived.Test.YtcogolbgfkikfaaBlkS
import Derived.Test.YtcogolbgfkikfaaPdBlockWrites
namespace Go.Proofs.Ytcogolbgfkikfaa.Pure
theorem BlockWrites : P.screelaw09_BlockWrites.Stated := BlkS.BlockWrites
end Go.Proofs.Ytcogolbgfkikfaa.Pure
