-- Written by a program of this session (wip/print2.py): the functions that the law reaches, plain, and the walks.
import Derived.Test.YtpaohkhmhdhibaaPFnAtx0
import Derived.Test.YtpaohkhmhdhibaaPFnAtx1
import Derived.Test.YtpaohkhmhdhibaaPFnAtx2
import Derived.Test.YtpaohkhmhdhibaaPFnAtx3
import Derived.Test.YtpaohkhmhdhibaaPFnAtx4
import Derived.Test.YtpaohkhmhdhibaaPFnAtx5
import Derived.Test.YtpaohkhmhdhibaaPFnAtx6
import Derived.Test.YtpaohkhmhdhibaaPFnAtx7
import Derived.Test.YtpaohkhmhdhibaaPFnAtx8
import Derived.Test.YtpaohkhmhdhibaaPFnAtx9
import Derived.Test.YtpaohkhmhdhibaaPFnAtx10
import Derived.Test.YtpaohkhmhdhibaaPFnAtx11
import Derived.Test.YtpaohkhmhdhibaaPFnAtx12
import Derived.Test.YtpaohkhmhdhibaaPFnAtx13
import Derived.Test.YtpaohkhmhdhibaaPFnAtx14
import Derived.Test.YtpaohkhmhdhibaaPFnAtx15
import Derived.Test.YtpaohkhmhdhibaaPFnAtx16
import Derived.Test.YtpaohkhmhdhibaaPFnAtx17
namespace Go.Proofs.Ytpaohkhmhdhibaa.PFnAt
open Go.RowKit Go.Proofs.YtpaohkhmhdhibaaW.PrintWords Go.Proofs.YtpaohkhmhdhibaaW.PrintLast Go.Proofs.YtpaohkhmhdhibaaW.PrintMore
attribute [local go_sem] max2_int min2_int max_two min_two max_three min_three max_four min_four   -- for this text's walks alone
set_option linter.unusedVariables false
set_option linter.unusedSimpArgs false

end Go.Proofs.Ytpaohkhmhdhibaa.PFnAt
