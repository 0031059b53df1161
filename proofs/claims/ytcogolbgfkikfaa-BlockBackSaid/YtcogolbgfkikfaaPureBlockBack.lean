/- The law BlockBack is proved of what its code comes to: at every input it answers true. No condition but the row's own. -/
import Derived.Test.YtcogolbgfkikfaaBlkC
import Derived.Test.YtcogolbgfkikfaaPdBlockBack
namespace Go.Proofs.Ytcogolbgfkikfaa.Pure
theorem BlockBack : P.screelaw09_BlockBack.Stated := BlkS.BlockBack
end Go.Proofs.Ytcogolbgfkikfaa.Pure
