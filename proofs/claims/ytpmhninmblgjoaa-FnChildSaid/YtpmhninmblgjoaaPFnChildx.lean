-- Written by a program of this session (wip/print2.py): the functions that the law reaches, plain, and the walks.
import Derived.Test.YtpmhninmblgjoaaPFnChildx0
import Derived.Test.YtpmhninmblgjoaaPFnChildx1
import Derived.Test.YtpmhninmblgjoaaPFnChildx2
import Derived.Test.YtpmhninmblgjoaaPFnChildx3
import Derived.Test.YtpmhninmblgjoaaPFnChildx4
namespace Go.Proofs.Ytpmhninmblgjoaa.PFnChild
open Go.RowKit Go.Proofs.YtpmhninmblgjoaaW.PrintWords Go.Proofs.YtpmhninmblgjoaaW.PrintLast Go.Proofs.YtpmhninmblgjoaaW.PrintMore
attribute [local go_sem] max2_int min2_int max_two min_two max_three min_three max_four min_four   -- for this text's walks alone
set_option linter.unusedVariables false
set_option linter.unusedSimpArgs false

end Go.Proofs.Ytpmhninmblgjoaa.PFnChild
