-- Written by a program of this session (wip/print2.py): the functions that the law reaches, plain, and the walks.
import Derived.Test.YtpjgcjkodmkemaaPFnZerox0
import Derived.Test.YtpjgcjkodmkemaaPFnZerox1
import Derived.Test.YtpjgcjkodmkemaaPFnZerox2
import Derived.Test.YtpjgcjkodmkemaaPFnZerox3
import Derived.Test.YtpjgcjkodmkemaaPFnZerox4
import Derived.Test.YtpjgcjkodmkemaaPFnZerox5
import Derived.Test.YtpjgcjkodmkemaaPFnZerox6
import Derived.Test.YtpjgcjkodmkemaaPFnZerox7
import Derived.Test.YtpjgcjkodmkemaaPFnZerox8
import Derived.Test.YtpjgcjkodmkemaaPFnZerox9
import Derived.Test.YtpjgcjkodmkemaaPFnZerox10
import Derived.Test.YtpjgcjkodmkemaaPFnZerox11
import Derived.Test.YtpjgcjkodmkemaaPFnZerox12
import Derived.Test.YtpjgcjkodmkemaaPFnZerox13
import Derived.Test.YtpjgcjkodmkemaaPFnZerox14
namespace Go.Proofs.Ytpjgcjkodmkemaa.PFnZero
open Go.RowKit Go.Proofs.YtpjgcjkodmkemaaW.PrintWords Go.Proofs.YtpjgcjkodmkemaaW.PrintLast Go.Proofs.YtpjgcjkodmkemaaW.PrintMore
attribute [local go_sem] max2_int min2_int max_two min_two max_three min_three max_four min_four   -- for this text's walks alone
set_option linter.unusedVariables false
set_option linter.unusedSimpArgs false

end Go.Proofs.Ytpjgcjkodmkemaa.PFnZero
