-- Written by a program of this session (wip/print2.py): the functions that the law reaches, plain, and the walks.
import Derived.Test.YtnbeeogmaamgdaaPFnMirrorx0
import Derived.Test.YtnbeeogmaamgdaaPFnMirrorx1
import Derived.Test.YtnbeeogmaamgdaaPFnMirrorx2
import Derived.Test.YtnbeeogmaamgdaaPFnMirrorx3
import Derived.Test.YtnbeeogmaamgdaaPFnMirrorx4
import Derived.Test.YtnbeeogmaamgdaaPFnMirrorx5
import Derived.Test.YtnbeeogmaamgdaaPFnMirrorx6
import Derived.Test.YtnbeeogmaamgdaaPFnMirrorx7
import Derived.Test.YtnbeeogmaamgdaaPFnMirrorx8
import Derived.Test.YtnbeeogmaamgdaaPFnMirrorx9
import Derived.Test.YtnbeeogmaamgdaaPFnMirrorx10
import Derived.Test.YtnbeeogmaamgdaaPFnMirrorx11
import Derived.Test.YtnbeeogmaamgdaaPFnMirrorx12
import Derived.Test.YtnbeeogmaamgdaaPFnMirrorx13
import Derived.Test.YtnbeeogmaamgdaaPFnMirrorx14
namespace Go.Proofs.Ytnbeeogmaamgdaa.PFnMirror
open Go.RowKit Go.Proofs.YtnbeeogmaamgdaaW.PrintWords Go.Proofs.YtnbeeogmaamgdaaW.PrintLast Go.Proofs.YtnbeeogmaamgdaaW.PrintMore
attribute [local go_sem] max2_int min2_int max_two min_two max_three min_three max_four min_four   -- for this text's walks alone
set_option linter.unusedVariables false
set_option linter.unusedSimpArgs false

end Go.Proofs.Ytnbeeogmaamgdaa.PFnMirror
