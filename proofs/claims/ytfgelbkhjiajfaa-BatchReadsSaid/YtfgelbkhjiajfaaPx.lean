-- Printed by a program of this session's own (wip/tools/pprint.sh, over the kit's print, with given contracts): not typed by hand.
import Derived.Test.YtfgelbkhjiajfaaPx0
import Derived.Test.YtfgelbkhjiajfaaPx1
import Derived.Test.YtfgelbkhjiajfaaPx2
import Derived.Test.YtfgelbkhjiajfaaPx3
import Derived.Test.YtfgelbkhjiajfaaPx4
import Derived.Test.YtfgelbkhjiajfaaPx5
import Derived.Test.YtfgelbkhjiajfaaPx6
import Derived.Test.YtfgelbkhjiajfaaPx7
import Derived.Test.YtfgelbkhjiajfaaPx8
import Derived.Test.YtfgelbkhjiajfaaPx9
import Derived.Test.YtfgelbkhjiajfaaPx10
namespace Go.Proofs.Ytfgelbkhjiajfaa.P
open Go.RowKit Go.Proofs.YtfgelbkhjiajfaaW.PrintWords Go.Proofs.YtfgelbkhjiajfaaW.PrintLast Go.Proofs.YtfgelbkhjiajfaaW.PrintMore
attribute [local go_sem] max2_int min2_int max_two min_two max_three min_three max_four min_four   -- for this text's walks alone
set_option linter.unusedVariables false
set_option linter.unusedSimpArgs false

end Go.Proofs.Ytfgelbkhjiajfaa.P
