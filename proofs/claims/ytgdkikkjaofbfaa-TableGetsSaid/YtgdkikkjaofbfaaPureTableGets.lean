/- The law TableGets is proved of what its code comes to: at every input it answers true. No condition but the row's own. -/
import Derived.Test.YtgdkikkjaofbfaaTabGets
import Derived.Test.YtgdkikkjaofbfaaPdTableGets
namespace Go.Proofs.Ytgdkikkjaofbfaa.Pure
theorem TableGets : P.screelaw11_TableGets.Stated := TabS.TableGets
end Go.Proofs.Ytgdkikkjaofbfaa.Pure
