/- The law TableReads is proved of what its code comes to: at every input it answers true. No condition but the row's own. -/
import Derived.Test.YtgdkikkjaofbfaaTabM
import Derived.Test.YtgdkikkjaofbfaaPdTableReads
namespace Go.Proofs.Ytgdkikkjaofbfaa.Pure
theorem TableReads : P.qj.Stated := TabS.TableReads
end Go.Proofs.Ytgdkikkjaofbfaa.Pure
