/- The law BlockSeeks is proved of what its code comes to: at every input it answers true. No condition but the row's own. -/
import Derived.Test.YtcogolbgfkikfaaBlkF
import Derived.Test.YtcogolbgfkikfaaPdBlockSeeks
namespace Go.Proofs.Ytcogolbgfkikfaa.Pure
theorem BlockSeeks : P.screelaw09_BlockSeeks.Stated := BlkS.BlockSeeks
end Go.Proofs.Ytcogolbgfkikfaa.Pure
