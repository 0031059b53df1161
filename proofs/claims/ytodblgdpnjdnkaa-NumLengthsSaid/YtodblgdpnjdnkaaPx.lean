-- Printed by a program of this session's own (wip/tools/pprint.sh, over the kit's print, with given contracts): not typed by hand.
import Derived.Test.YtodblgdpnjdnkaaPx0
import Derived.Test.YtodblgdpnjdnkaaPx1
import Derived.Test.YtodblgdpnjdnkaaPx2
import Derived.Test.YtodblgdpnjdnkaaPx3
import Derived.Test.YtodblgdpnjdnkaaPx4
import Derived.Test.YtodblgdpnjdnkaaPx5
namespace Go.Proofs.Ytodblgdpnjdnkaa.P
open Go.RowKit Go.Proofs.YtodblgdpnjdnkaaW.PrintWords Go.Proofs.YtodblgdpnjdnkaaW.PrintLast Go.Proofs.YtodblgdpnjdnkaaW.PrintMore
attribute [local go_sem] max2_int min2_int max_two min_two max_three min_three max_four min_four   -- for this text's walks alone
set_option linter.unusedVariables false
set_option linter.unusedSimpArgs false

end Go.Proofs.Ytodblgdpnjdnkaa.P
