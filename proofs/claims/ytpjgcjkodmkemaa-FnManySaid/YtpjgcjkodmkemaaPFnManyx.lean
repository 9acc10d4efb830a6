-- Written by a program of this session (wip/print2.py): the functions that the law reaches, plain, and the walks.
import Derived.Test.YtpjgcjkodmkemaaPFnManyx0
import Derived.Test.YtpjgcjkodmkemaaPFnManyx1
import Derived.Test.YtpjgcjkodmkemaaPFnManyx2
import Derived.Test.YtpjgcjkodmkemaaPFnManyx3
import Derived.Test.YtpjgcjkodmkemaaPFnManyx4
import Derived.Test.YtpjgcjkodmkemaaPFnManyx5
import Derived.Test.YtpjgcjkodmkemaaPFnManyx6
import Derived.Test.YtpjgcjkodmkemaaPFnManyx7
import Derived.Test.YtpjgcjkodmkemaaPFnManyx8
import Derived.Test.YtpjgcjkodmkemaaPFnManyx9
import Derived.Test.YtpjgcjkodmkemaaPFnManyx10
import Derived.Test.YtpjgcjkodmkemaaPFnManyx11
import Derived.Test.YtpjgcjkodmkemaaPFnManyx12
import Derived.Test.YtpjgcjkodmkemaaPFnManyx13
import Derived.Test.YtpjgcjkodmkemaaPFnManyx14
namespace Go.Proofs.Ytpjgcjkodmkemaa.PFnMany
open Go.RowKit Go.Proofs.YtpjgcjkodmkemaaW.PrintWords Go.Proofs.YtpjgcjkodmkemaaW.PrintLast Go.Proofs.YtpjgcjkodmkemaaW.PrintMore
attribute [local go_sem] max2_int min2_int max_two min_two max_three min_three max_four min_four   -- for this text's walks alone
set_option linter.unusedVariables false
set_option linter.unusedSimpArgs false

end Go.Proofs.Ytpjgcjkodmkemaa.PFnMany
