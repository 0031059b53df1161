/- The law TableCut is proved of what its code comes to: at every input it answers true. No condition but the row's own. -/
import Derived.Test.YtgdkikkjaofbfaaTabCut
import Derived.Test.YtgdkikkjaofbfaaPdTableCut
namespace Go.Proofs.Ytgdkikkjaofbfaa.Pure
theorem TableCut : P.screelaw11_TableCut.Stated := TabS.TableCut
end Go.Proofs.Ytgdkikkjaofbfaa.Pure
