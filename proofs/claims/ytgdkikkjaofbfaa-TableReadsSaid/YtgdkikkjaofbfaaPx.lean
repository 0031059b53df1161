-- Printed by a program of this session's own (wip/tools/pprint.sh, over the kit's print, with given contracts): not typed by hand.
import Derived.Test.YtgdkikkjaofbfaaPx0
import Derived.Test.YtgdkikkjaofbfaaPx1
import Derived.Test.YtgdkikkjaofbfaaPx2
import Derived.Test.YtgdkikkjaofbfaaPx3
import Derived.Test.YtgdkikkjaofbfaaPx4
import Derived.Test.YtgdkikkjaofbfaaPx5
import Derived.Test.YtgdkikkjaofbfaaPx6
import Derived.Test.YtgdkikkjaofbfaaPx7
import Derived.Test.YtgdkikkjaofbfaaPx8
import Derived.Test.YtgdkikkjaofbfaaPx9
import Derived.Test.YtgdkikkjaofbfaaPx10
import Derived.Test.YtgdkikkjaofbfaaPx11
import Derived.Test.YtgdkikkjaofbfaaPx12
import Derived.Test.YtgdkikkjaofbfaaPx13
import Derived.Test.YtgdkikkjaofbfaaPx14
import Derived.Test.YtgdkikkjaofbfaaPx15
import Derived.Test.YtgdkikkjaofbfaaPx16
import Derived.Test.YtgdkikkjaofbfaaPx17
import Derived.Test.YtgdkikkjaofbfaaPx18
import Derived.Test.YtgdkikkjaofbfaaPx19
import Derived.Test.YtgdkikkjaofbfaaPx20
import Derived.Test.YtgdkikkjaofbfaaPx21
import Derived.Test.YtgdkikkjaofbfaaPx22
import Derived.Test.YtgdkikkjaofbfaaPx23
import Derived.Test.YtgdkikkjaofbfaaPx24
namespace Go.Proofs.Ytgdkikkjaofbfaa.P
open Go.RowKit Go.Proofs.YtgdkikkjaofbfaaW.PrintWords Go.Proofs.YtgdkikkjaofbfaaW.PrintLast Go.Proofs.YtgdkikkjaofbfaaW.PrintMore
attribute [local go_sem] max2_int min2_int max_two min_two max_three min_three max_four min_four   -- for this text's walks alone
set_option linter.unusedVariables false
set_option linter.unusedSimpArgs false

end Go.Proofs.Ytgdkikkjaofbfaa.P
