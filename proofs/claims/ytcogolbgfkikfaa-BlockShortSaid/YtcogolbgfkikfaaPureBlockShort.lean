/- The law BlockShort is proved of what its code comes to: at every input it answers true. No condition but the row's own. -/
import Derived.Test.YtcogolbgfkikfaaBlkD
import Derived.Test.YtcogolbgfkikfaaPdBlockShort
namespace Go.Proofs.Ytcogolbgfkikfaa.Pure
theorem BlockShort : P.screelaw09_BlockShort.Stated := BlkS.BlockShort
end Go.Proofs.Ytcogolbgfkikfaa.Pure
