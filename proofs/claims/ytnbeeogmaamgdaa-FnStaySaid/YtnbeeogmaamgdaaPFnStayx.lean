-- Written by a program of this session (wip/print2.py): the functions that the law reaches, plain, and the walks.
import Derived.Test.YtnbeeogmaamgdaaPFnStayx0
import Derived.Test.YtnbeeogmaamgdaaPFnStayx1
import Derived.Test.YtnbeeogmaamgdaaPFnStayx2
import Derived.Test.YtnbeeogmaamgdaaPFnStayx3
import Derived.Test.YtnbeeogmaamgdaaPFnStayx4
import Derived.Test.YtnbeeogmaamgdaaPFnStayx5
import Derived.Test.YtnbeeogmaamgdaaPFnStayx6
import Derived.Test.YtnbeeogmaamgdaaPFnStayx7
import Derived.Test.YtnbeeogmaamgdaaPFnStayx8
import Derived.Test.YtnbeeogmaamgdaaPFnStayx9
import Derived.Test.YtnbeeogmaamgdaaPFnStayx10
namespace Go.Proofs.Ytnbeeogmaamgdaa.PFnStay
open Go.RowKit Go.Proofs.YtnbeeogmaamgdaaW.PrintWords Go.Proofs.YtnbeeogmaamgdaaW.PrintLast Go.Proofs.YtnbeeogmaamgdaaW.PrintMore
attribute [local go_sem] max2_int min2_int max_two min_two max_three min_three max_four min_four   -- for this text's walks alone
set_option linter.unusedVariables false
set_option linter.unusedSimpArgs false

end Go.Proofs.Ytnbeeogmaamgdaa.PFnStay
