-- Printed by a program of this session's own (wip/tools/pprint.sh, over the kit's print, with given contracts): not typed by hand.
import Derived.Test.YthgefbabajpelaaPx0
import Derived.Test.YthgefbabajpelaaPx1
import Derived.Test.YthgefbabajpelaaPx2
import Derived.Test.YthgefbabajpelaaPx3
import Derived.Test.YthgefbabajpelaaPx4
import Derived.Test.YthgefbabajpelaaPx5
namespace Go.Proofs.Ythgefbabajpelaa.P
open Go.RowKit Go.Proofs.YthgefbabajpelaaW.PrintWords Go.Proofs.YthgefbabajpelaaW.PrintLast Go.Proofs.YthgefbabajpelaaW.PrintMore
attribute [local go_sem] max2_int min2_int max_two min_two max_three min_three max_four min_four   -- for this text's walks alone
set_option linter.unusedVariables false
set_option linter.unusedSimpArgs false

end Go.Proofs.Ythgefbabajpelaa.P
