/- The law TableEnds is proved of what its code comes to: at every input it answers true. No condition but the row's own. -/
import Derived.Test.YtgdkikkjaofbfaaTabEnds
import Derived.Test.YtgdkikkjaofbfaaPdTableEnds
namespace Go.Proofs.Ytgdkikkjaofbfaa.Pure
theorem TableEnds : P.screelaw11_TableEnds.Stated := TabS.TableEnds
end Go.Proofs.Ytgdkikkjaofbfaa.Pure
