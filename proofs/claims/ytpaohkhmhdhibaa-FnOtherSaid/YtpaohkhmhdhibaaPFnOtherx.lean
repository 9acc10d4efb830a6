-- Written by a program of this session (wip/print2.py): the functions that the law reaches, plain, and the walks.
import Derived.Test.YtpaohkhmhdhibaaPFnOtherx0
import Derived.Test.YtpaohkhmhdhibaaPFnOtherx1
import Derived.Test.YtpaohkhmhdhibaaPFnOtherx2
import Derived.Test.YtpaohkhmhdhibaaPFnOtherx3
import Derived.Test.YtpaohkhmhdhibaaPFnOtherx4
import Derived.Test.YtpaohkhmhdhibaaPFnOtherx5
import Derived.Test.YtpaohkhmhdhibaaPFnOtherx6
import Derived.Test.YtpaohkhmhdhibaaPFnOtherx7
import Derived.Test.YtpaohkhmhdhibaaPFnOtherx8
import Derived.Test.YtpaohkhmhdhibaaPFnOtherx9
import Derived.Test.YtpaohkhmhdhibaaPFnOtherx10
import Derived.Test.YtpaohkhmhdhibaaPFnOtherx11
import Derived.Test.YtpaohkhmhdhibaaPFnOtherx12
import Derived.Test.YtpaohkhmhdhibaaPFnOtherx13
import Derived.Test.YtpaohkhmhdhibaaPFnOtherx14
namespace Go.Proofs.Ytpaohkhmhdhibaa.PFnOther
open Go.RowKit Go.Proofs.YtpaohkhmhdhibaaW.PrintWords Go.Proofs.YtpaohkhmhdhibaaW.PrintLast Go.Proofs.YtpaohkhmhdhibaaW.PrintMore
attribute [local go_sem] max2_int min2_int max_two min_two max_three min_three max_four min_four   -- for this text's walks alone
set_option linter.unusedVariables false
set_option linter.unusedSimpArgs false

end Go.Proofs.Ytpaohkhmhdhibaa.PFnOther
