/- The law BlockReads is proved of what its code comes to: at every input it answers true. No condition but the row's own. -/
import Derived.Test.YtcogolbgfkikfaaBlkT
namespace Go.Proofs.Ytcogolbgfkikfaa.Pure
theorem BlockReads : P.screelaw09_BlockReads.Pure := BlkS.BlockReads
end Go.Proofs.Ytcogolbgfkikfaa.Pure
