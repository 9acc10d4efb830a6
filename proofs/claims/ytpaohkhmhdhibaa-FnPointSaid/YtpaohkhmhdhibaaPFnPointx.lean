-- Written by a program of this session (wip/print2.py): the functions that the law reaches, plain, and the walks.
import Derived.Test.YtpaohkhmhdhibaaPFnPointx0
import Derived.Test.YtpaohkhmhdhibaaPFnPointx1
import Derived.Test.YtpaohkhmhdhibaaPFnPointx2
import Derived.Test.YtpaohkhmhdhibaaPFnPointx3
import Derived.Test.YtpaohkhmhdhibaaPFnPointx4
import Derived.Test.YtpaohkhmhdhibaaPFnPointx5
import Derived.Test.YtpaohkhmhdhibaaPFnPointx6
import Derived.Test.YtpaohkhmhdhibaaPFnPointx7
import Derived.Test.YtpaohkhmhdhibaaPFnPointx8
import Derived.Test.YtpaohkhmhdhibaaPFnPointx9
import Derived.Test.YtpaohkhmhdhibaaPFnPointx10
import Derived.Test.YtpaohkhmhdhibaaPFnPointx11
import Derived.Test.YtpaohkhmhdhibaaPFnPointx12
import Derived.Test.YtpaohkhmhdhibaaPFnPointx13
import Derived.Test.YtpaohkhmhdhibaaPFnPointx14
namespace Go.Proofs.Ytpaohkhmhdhibaa.PFnPoint
open Go.RowKit Go.Proofs.YtpaohkhmhdhibaaW.PrintWords Go.Proofs.YtpaohkhmhdhibaaW.PrintLast Go.Proofs.YtpaohkhmhdhibaaW.PrintMore
attribute [local go_sem] max2_int min2_int max_two min_two max_three min_three max_four min_four   -- for this text's walks alone
set_option linter.unusedVariables false
set_option linter.unusedSimpArgs false

end Go.Proofs.Ytpaohkhmhdhibaa.PFnPoint
