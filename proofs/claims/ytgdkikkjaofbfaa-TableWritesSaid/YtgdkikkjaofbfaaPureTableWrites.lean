/- The law TableWrites is proved of what its code comes to: at every input it answers true. No condition but the row's own. -/
import Derived.Test.YtgdkikkjaofbfaaTabM
import Derived.Test.YtgdkikkjaofbfaaPdTableWrites
namespace Go.Proofs.Ytgdkikkjaofbfaa.Pure
theorem TableWrites : P.screelaw11_TableWrites.Stated := TabS.TableWrites
end Go.Proofs.Ytgdkikkjaofbfaa.Pure
