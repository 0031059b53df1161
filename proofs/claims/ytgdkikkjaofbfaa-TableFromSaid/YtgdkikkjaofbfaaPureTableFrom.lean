/- The law TableFrom is proved of what its code comes to: at every input it answers true. No condition but the row's own. -/
import Derived.Test.YtgdkikkjaofbfaaTabFrom
import Derived.Test.YtgdkikkjaofbfaaPdTableFrom
namespace Go.Proofs.Ytgdkikkjaofbfaa.Pure
theorem TableFrom : P.screelaw11_TableFrom.Stated := TabS.TableFrom
end Go.Proofs.Ytgdkikkjaofbfaa.Pure
