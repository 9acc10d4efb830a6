-- Written by a program of this session (wip/print2.py): the functions that the law reaches, plain, and the walks.
import Derived.Test.YtnbeeogmaamgdaaPFnSignx0
import Derived.Test.YtnbeeogmaamgdaaPFnSignx1
import Derived.Test.YtnbeeogmaamgdaaPFnSignx2
import Derived.Test.YtnbeeogmaamgdaaPFnSignx3
import Derived.Test.YtnbeeogmaamgdaaPFnSignx4
import Derived.Test.YtnbeeogmaamgdaaPFnSignx5
import Derived.Test.YtnbeeogmaamgdaaPFnSignx6
import Derived.Test.YtnbeeogmaamgdaaPFnSignx7
import Derived.Test.YtnbeeogmaamgdaaPFnSignx8
import Derived.Test.YtnbeeogmaamgdaaPFnSignx9
import Derived.Test.YtnbeeogmaamgdaaPFnSignx10
import Derived.Test.YtnbeeogmaamgdaaPFnSignx11
import Derived.Test.YtnbeeogmaamgdaaPFnSignx12
import Derived.Test.YtnbeeogmaamgdaaPFnSignx13
import Derived.Test.YtnbeeogmaamgdaaPFnSignx14
import Derived.Test.YtnbeeogmaamgdaaPFnSignx15
import Derived.Test.YtnbeeogmaamgdaaPFnSignx16
namespace Go.Proofs.Ytnbeeogmaamgdaa.PFnSign
open Go.RowKit Go.Proofs.YtnbeeogmaamgdaaW.PrintWords Go.Proofs.YtnbeeogmaamgdaaW.PrintLast Go.Proofs.YtnbeeogmaamgdaaW.PrintMore
attribute [local go_sem] max2_int min2_int max_two min_two max_three min_three max_four min_four   -- for this text's walks alone
set_option linter.unusedVariables false
set_option linter.unusedSimpArgs false

end Go.Proofs.Ytnbeeogmaamgdaa.PFnSign
