-- Written by a program of this session (wip/print2.py): the functions that the law reaches, plain, and the walks.
import Derived.Test.YtnbeeogmaamgdaaPFnCarryx0
import Derived.Test.YtnbeeogmaamgdaaPFnCarryx1
import Derived.Test.YtnbeeogmaamgdaaPFnCarryx2
import Derived.Test.YtnbeeogmaamgdaaPFnCarryx3
import Derived.Test.YtnbeeogmaamgdaaPFnCarryx4
import Derived.Test.YtnbeeogmaamgdaaPFnCarryx5
import Derived.Test.YtnbeeogmaamgdaaPFnCarryx6
import Derived.Test.YtnbeeogmaamgdaaPFnCarryx7
import Derived.Test.YtnbeeogmaamgdaaPFnCarryx8
import Derived.Test.YtnbeeogmaamgdaaPFnCarryx9
import Derived.Test.YtnbeeogmaamgdaaPFnCarryx10
import Derived.Test.YtnbeeogmaamgdaaPFnCarryx11
import Derived.Test.YtnbeeogmaamgdaaPFnCarryx12
import Derived.Test.YtnbeeogmaamgdaaPFnCarryx13
namespace Go.Proofs.Ytnbeeogmaamgdaa.PFnCarry
open Go.RowKit Go.Proofs.YtnbeeogmaamgdaaW.PrintWords Go.Proofs.YtnbeeogmaamgdaaW.PrintLast Go.Proofs.YtnbeeogmaamgdaaW.PrintMore
attribute [local go_sem] max2_int min2_int max_two min_two max_three min_three max_four min_four   -- for this text's walks alone
set_option linter.unusedVariables false
set_option linter.unusedSimpArgs false

end Go.Proofs.Ytnbeeogmaamgdaa.PFnCarry
