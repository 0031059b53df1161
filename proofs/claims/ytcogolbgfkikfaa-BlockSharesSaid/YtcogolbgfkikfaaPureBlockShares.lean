/- The law BlockShares is proved of what its code comes to: at every input it answers true. No condition but the row's own. -/
import Derived.Test.YtcogolbgfkikfaaBlkA
namespace Go.Proofs.Ytcogolbgfkikfaa.Pure
theorem BlockShares : P.screelaw09_BlockShares.Pure := BlkS.BlockShares
end Go.Proofs.Ytcogolbgfkikfaa.Pure
