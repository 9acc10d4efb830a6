-- Written by a program of this session (wip/print2.py): the functions that the law reaches, plain, and the walks.
import Derived.Test.YtnbeeogmaamgdaaPFnMoveMulx0
import Derived.Test.YtnbeeogmaamgdaaPFnMoveMulx1
import Derived.Test.YtnbeeogmaamgdaaPFnMoveMulx2
import Derived.Test.YtnbeeogmaamgdaaPFnMoveMulx3
import Derived.Test.YtnbeeogmaamgdaaPFnMoveMulx4
import Derived.Test.YtnbeeogmaamgdaaPFnMoveMulx5
import Derived.Test.YtnbeeogmaamgdaaPFnMoveMulx6
import Derived.Test.YtnbeeogmaamgdaaPFnMoveMulx7
import Derived.Test.YtnbeeogmaamgdaaPFnMoveMulx8
import Derived.Test.YtnbeeogmaamgdaaPFnMoveMulx9
import Derived.Test.YtnbeeogmaamgdaaPFnMoveMulx10
import Derived.Test.YtnbeeogmaamgdaaPFnMoveMulx11
import Derived.Test.YtnbeeogmaamgdaaPFnMoveMulx12
import Derived.Test.YtnbeeogmaamgdaaPFnMoveMulx13
import Derived.Test.YtnbeeogmaamgdaaPFnMoveMulx14
import Derived.Test.YtnbeeogmaamgdaaPFnMoveMulx15
import Derived.Test.YtnbeeogmaamgdaaPFnMoveMulx16
namespace Go.Proofs.Ytnbeeogmaamgdaa.PFnMoveMul
open Go.RowKit Go.Proofs.YtnbeeogmaamgdaaW.PrintWords Go.Proofs.YtnbeeogmaamgdaaW.PrintLast Go.Proofs.YtnbeeogmaamgdaaW.PrintMore
attribute [local go_sem] max2_int min2_int max_two min_two max_three min_three max_four min_four   -- for this text's walks alone
set_option linter.unusedVariables false
set_option linter.unusedSimpArgs false

end Go.Proofs.Ytnbeeogmaamgdaa.PFnMoveMul
