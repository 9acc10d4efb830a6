-- Written by a program of this session (wip/print2.py): the functions that the law reaches, plain, and the walks.
import Derived.Test.YtnbeeogmaamgdaaPFnOnx0
import Derived.Test.YtnbeeogmaamgdaaPFnOnx1
import Derived.Test.YtnbeeogmaamgdaaPFnOnx2
import Derived.Test.YtnbeeogmaamgdaaPFnOnx3
import Derived.Test.YtnbeeogmaamgdaaPFnOnx4
import Derived.Test.YtnbeeogmaamgdaaPFnOnx5
import Derived.Test.YtnbeeogmaamgdaaPFnOnx6
import Derived.Test.YtnbeeogmaamgdaaPFnOnx7
import Derived.Test.YtnbeeogmaamgdaaPFnOnx8
import Derived.Test.YtnbeeogmaamgdaaPFnOnx9
import Derived.Test.YtnbeeogmaamgdaaPFnOnx10
import Derived.Test.YtnbeeogmaamgdaaPFnOnx11
import Derived.Test.YtnbeeogmaamgdaaPFnOnx12
import Derived.Test.YtnbeeogmaamgdaaPFnOnx13
import Derived.Test.YtnbeeogmaamgdaaPFnOnx14
namespace Go.Proofs.Ytnbeeogmaamgdaa.PFnOn
open Go.RowKit Go.Proofs.YtnbeeogmaamgdaaW.PrintWords Go.Proofs.YtnbeeogmaamgdaaW.PrintLast Go.Proofs.YtnbeeogmaamgdaaW.PrintMore
attribute [local go_sem] max2_int min2_int max_two min_two max_three min_three max_four min_four   -- for this text's walks alone
set_option linter.unusedVariables false
set_option linter.unusedSimpArgs false

end Go.Proofs.Ytnbeeogmaamgdaa.PFnOn
