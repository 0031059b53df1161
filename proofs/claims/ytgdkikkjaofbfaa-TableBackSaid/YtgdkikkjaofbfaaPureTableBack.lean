/- The law TableBack is proved of what its code comes to: at every input it answers true. No condition but the row's own. -/
import Derived.Test.YtgdkikkjaofbfaaTabBack
import Derived.Test.YtgdkikkjaofbfaaPdTableBack
namespace Go.Proofs.Ytgdkikkjaofbfaa.Pure
theorem TableBack : P.screelaw11_TableBack.Stated := TabS.TableBack
end Go.Proofs.Ytgdkikkjaofbfaa.Pure
