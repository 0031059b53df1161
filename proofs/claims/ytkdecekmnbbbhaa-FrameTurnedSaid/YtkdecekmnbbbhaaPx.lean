-- Printed by a program of this session's own (wip/tools/pprint.sh, over the kit's print, with given contracts): not typed by hand.
import Derived.Test.YtkdecekmnbbbhaaPx0
import Derived.Test.YtkdecekmnbbbhaaPx1
import Derived.Test.YtkdecekmnbbbhaaPx2
import Derived.Test.YtkdecekmnbbbhaaPx3
import Derived.Test.YtkdecekmnbbbhaaPx4
import Derived.Test.YtkdecekmnbbbhaaPx5
import Derived.Test.YtkdecekmnbbbhaaPx6
import Derived.Test.YtkdecekmnbbbhaaPx7
import Derived.Test.YtkdecekmnbbbhaaPx8
namespace Go.Proofs.Ytkdecekmnbbbhaa.P
open Go.RowKit Go.Proofs.YtkdecekmnbbbhaaW.PrintWords Go.Proofs.YtkdecekmnbbbhaaW.PrintLast Go.Proofs.YtkdecekmnbbbhaaW.PrintMore
attribute [local go_sem] max2_int min2_int max_two min_two max_three min_three max_four min_four   -- for this text's walks alone
set_option linter.unusedVariables false
set_option linter.unusedSimpArgs false

end Go.Proofs.Ytkdecekmnbbbhaa.P
