-- Printed by a program of this session's own (wip/tools/pprint.sh, over the kit's print, with given contracts): not typed by hand.
import Derived.Test.YtachminlgcndnaaPx0
import Derived.Test.YtachminlgcndnaaPx1
import Derived.Test.YtachminlgcndnaaPx2
import Derived.Test.YtachminlgcndnaaPx3
import Derived.Test.YtachminlgcndnaaPx4
import Derived.Test.YtachminlgcndnaaPx5
import Derived.Test.YtachminlgcndnaaPx6
import Derived.Test.YtachminlgcndnaaPx7
import Derived.Test.YtachminlgcndnaaPx8
import Derived.Test.YtachminlgcndnaaPx9
import Derived.Test.YtachminlgcndnaaPx10
import Derived.Test.YtachminlgcndnaaPx11
import Derived.Test.YtachminlgcndnaaPx12
import Derived.Test.YtachminlgcndnaaPx13
namespace Go.Proofs.Ytachminlgcndnaa.P
open Go.RowKit Go.Proofs.YtachminlgcndnaaW.PrintWords Go.Proofs.YtachminlgcndnaaW.PrintLast Go.Proofs.YtachminlgcndnaaW.PrintMore
attribute [local go_sem] max2_int min2_int max_two min_two max_three min_three max_four min_four   -- for this text's walks alone
set_option linter.unusedVariables false
set_option linter.unusedSimpArgs false

end Go.Proofs.Ytachminlgcndnaa.P
