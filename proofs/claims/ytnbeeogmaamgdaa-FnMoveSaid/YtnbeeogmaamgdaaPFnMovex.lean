-- Written by a program of this session (wip/print2.py): the functions that the law reaches, plain, and the walks.
import Derived.Test.YtnbeeogmaamgdaaPFnMovex0
import Derived.Test.YtnbeeogmaamgdaaPFnMovex1
import Derived.Test.YtnbeeogmaamgdaaPFnMovex2
import Derived.Test.YtnbeeogmaamgdaaPFnMovex3
import Derived.Test.YtnbeeogmaamgdaaPFnMovex4
import Derived.Test.YtnbeeogmaamgdaaPFnMovex5
import Derived.Test.YtnbeeogmaamgdaaPFnMovex6
import Derived.Test.YtnbeeogmaamgdaaPFnMovex7
import Derived.Test.YtnbeeogmaamgdaaPFnMovex8
import Derived.Test.YtnbeeogmaamgdaaPFnMovex9
import Derived.Test.YtnbeeogmaamgdaaPFnMovex10
import Derived.Test.YtnbeeogmaamgdaaPFnMovex11
import Derived.Test.YtnbeeogmaamgdaaPFnMovex12
import Derived.Test.YtnbeeogmaamgdaaPFnMovex13
import Derived.Test.YtnbeeogmaamgdaaPFnMovex14
import Derived.Test.YtnbeeogmaamgdaaPFnMovex15
namespace Go.Proofs.Ytnbeeogmaamgdaa.PFnMove
open Go.RowKit Go.Proofs.YtnbeeogmaamgdaaW.PrintWords Go.Proofs.YtnbeeogmaamgdaaW.PrintLast Go.Proofs.YtnbeeogmaamgdaaW.PrintMore
attribute [local go_sem] max2_int min2_int max_two min_two max_three min_three max_four min_four   -- for this text's walks alone
set_option linter.unusedVariables false
set_option linter.unusedSimpArgs false

end Go.Proofs.Ytnbeeogmaamgdaa.PFnMove
