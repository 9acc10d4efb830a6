-- Written by a program of this session (wip/print2.py): the functions that the law reaches, plain, and the walks.
import Derived.Test.YtnbeeogmaamgdaaPFnOfx0
import Derived.Test.YtnbeeogmaamgdaaPFnOfx1
import Derived.Test.YtnbeeogmaamgdaaPFnOfx2
import Derived.Test.YtnbeeogmaamgdaaPFnOfx3
import Derived.Test.YtnbeeogmaamgdaaPFnOfx4
import Derived.Test.YtnbeeogmaamgdaaPFnOfx5
import Derived.Test.YtnbeeogmaamgdaaPFnOfx6
import Derived.Test.YtnbeeogmaamgdaaPFnOfx7
import Derived.Test.YtnbeeogmaamgdaaPFnOfx8
import Derived.Test.YtnbeeogmaamgdaaPFnOfx9
import Derived.Test.YtnbeeogmaamgdaaPFnOfx10
import Derived.Test.YtnbeeogmaamgdaaPFnOfx11
import Derived.Test.YtnbeeogmaamgdaaPFnOfx12
import Derived.Test.YtnbeeogmaamgdaaPFnOfx13
import Derived.Test.YtnbeeogmaamgdaaPFnOfx14
import Derived.Test.YtnbeeogmaamgdaaPFnOfx15
namespace Go.Proofs.Ytnbeeogmaamgdaa.PFnOf
open Go.RowKit Go.Proofs.YtnbeeogmaamgdaaW.PrintWords Go.Proofs.YtnbeeogmaamgdaaW.PrintLast Go.Proofs.YtnbeeogmaamgdaaW.PrintMore
attribute [local go_sem] max2_int min2_int max_two min_two max_three min_three max_four min_four   -- for this text's walks alone
set_option linter.unusedVariables false
set_option linter.unusedSimpArgs false

end Go.Proofs.Ytnbeeogmaamgdaa.PFnOf
