-- Written by a program of this session (wip/print2.py): the functions that the law reaches, plain, and the walks.
import Derived.Test.YtpaohkhmhdhibaaPFnConicManyx0
import Derived.Test.YtpaohkhmhdhibaaPFnConicManyx1
import Derived.Test.YtpaohkhmhdhibaaPFnConicManyx2
import Derived.Test.YtpaohkhmhdhibaaPFnConicManyx3
import Derived.Test.YtpaohkhmhdhibaaPFnConicManyx4
import Derived.Test.YtpaohkhmhdhibaaPFnConicManyx5
import Derived.Test.YtpaohkhmhdhibaaPFnConicManyx6
import Derived.Test.YtpaohkhmhdhibaaPFnConicManyx7
import Derived.Test.YtpaohkhmhdhibaaPFnConicManyx8
import Derived.Test.YtpaohkhmhdhibaaPFnConicManyx9
import Derived.Test.YtpaohkhmhdhibaaPFnConicManyx10
import Derived.Test.YtpaohkhmhdhibaaPFnConicManyx11
import Derived.Test.YtpaohkhmhdhibaaPFnConicManyx12
import Derived.Test.YtpaohkhmhdhibaaPFnConicManyx13
import Derived.Test.YtpaohkhmhdhibaaPFnConicManyx14
import Derived.Test.YtpaohkhmhdhibaaPFnConicManyx15
import Derived.Test.YtpaohkhmhdhibaaPFnConicManyx16
import Derived.Test.YtpaohkhmhdhibaaPFnConicManyx17
namespace Go.Proofs.Ytpaohkhmhdhibaa.PFnConicMany
open Go.RowKit Go.Proofs.YtpaohkhmhdhibaaW.PrintWords Go.Proofs.YtpaohkhmhdhibaaW.PrintLast Go.Proofs.YtpaohkhmhdhibaaW.PrintMore
attribute [local go_sem] max2_int min2_int max_two min_two max_three min_three max_four min_four   -- for this text's walks alone
set_option linter.unusedVariables false
set_option linter.unusedSimpArgs false

end Go.Proofs.Ytpaohkhmhdhibaa.PFnConicMany
