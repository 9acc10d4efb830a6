-- Written by a program of this session (wip/print2.py): the functions that the law reaches, plain, and the walks.
import Derived.Test.YtnbeeogmaamgdaaPFnMoveBackx0
import Derived.Test.YtnbeeogmaamgdaaPFnMoveBackx1
import Derived.Test.YtnbeeogmaamgdaaPFnMoveBackx2
import Derived.Test.YtnbeeogmaamgdaaPFnMoveBackx3
import Derived.Test.YtnbeeogmaamgdaaPFnMoveBackx4
import Derived.Test.YtnbeeogmaamgdaaPFnMoveBackx5
import Derived.Test.YtnbeeogmaamgdaaPFnMoveBackx6
import Derived.Test.YtnbeeogmaamgdaaPFnMoveBackx7
import Derived.Test.YtnbeeogmaamgdaaPFnMoveBackx8
import Derived.Test.YtnbeeogmaamgdaaPFnMoveBackx9
import Derived.Test.YtnbeeogmaamgdaaPFnMoveBackx10
import Derived.Test.YtnbeeogmaamgdaaPFnMoveBackx11
import Derived.Test.YtnbeeogmaamgdaaPFnMoveBackx12
import Derived.Test.YtnbeeogmaamgdaaPFnMoveBackx13
import Derived.Test.YtnbeeogmaamgdaaPFnMoveBackx14
import Derived.Test.YtnbeeogmaamgdaaPFnMoveBackx15
namespace Go.Proofs.Ytnbeeogmaamgdaa.PFnMoveBack
open Go.RowKit Go.Proofs.YtnbeeogmaamgdaaW.PrintWords Go.Proofs.YtnbeeogmaamgdaaW.PrintLast Go.Proofs.YtnbeeogmaamgdaaW.PrintMore
attribute [local go_sem] max2_int min2_int max_two min_two max_three min_three max_four min_four   -- for this text's walks alone
set_option linter.unusedVariables false
set_option linter.unusedSimpArgs false

end Go.Proofs.Ytnbeeogmaamgdaa.PFnMoveBack
