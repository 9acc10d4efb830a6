-- Written by a program of this session (wip/print2.py): the functions that the law reaches, plain, and the walks.
import Derived.Test.YtpaohkhmhdhibaaPFnConicBackx0
import Derived.Test.YtpaohkhmhdhibaaPFnConicBackx1
import Derived.Test.YtpaohkhmhdhibaaPFnConicBackx2
import Derived.Test.YtpaohkhmhdhibaaPFnConicBackx3
import Derived.Test.YtpaohkhmhdhibaaPFnConicBackx4
import Derived.Test.YtpaohkhmhdhibaaPFnConicBackx5
import Derived.Test.YtpaohkhmhdhibaaPFnConicBackx6
import Derived.Test.YtpaohkhmhdhibaaPFnConicBackx7
import Derived.Test.YtpaohkhmhdhibaaPFnConicBackx8
import Derived.Test.YtpaohkhmhdhibaaPFnConicBackx9
import Derived.Test.YtpaohkhmhdhibaaPFnConicBackx10
import Derived.Test.YtpaohkhmhdhibaaPFnConicBackx11
import Derived.Test.YtpaohkhmhdhibaaPFnConicBackx12
import Derived.Test.YtpaohkhmhdhibaaPFnConicBackx13
import Derived.Test.YtpaohkhmhdhibaaPFnConicBackx14
import Derived.Test.YtpaohkhmhdhibaaPFnConicBackx15
import Derived.Test.YtpaohkhmhdhibaaPFnConicBackx16
import Derived.Test.YtpaohkhmhdhibaaPFnConicBackx17
import Derived.Test.YtpaohkhmhdhibaaPFnConicBackx18
namespace Go.Proofs.Ytpaohkhmhdhibaa.PFnConicBack
open Go.RowKit Go.Proofs.YtpaohkhmhdhibaaW.PrintWords Go.Proofs.YtpaohkhmhdhibaaW.PrintLast Go.Proofs.YtpaohkhmhdhibaaW.PrintMore
attribute [local go_sem] max2_int min2_int max_two min_two max_three min_three max_four min_four   -- for this text's walks alone
set_option linter.unusedVariables false
set_option linter.unusedSimpArgs false

end Go.Proofs.Ytpaohkhmhdhibaa.PFnConicBack
