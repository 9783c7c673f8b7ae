/- The walk of what a law reaches, for the law's row: written by a program of this session; it has no condition of its own. -/
import Derived.Test.YtfcjbdkipcpjcaaPFnOrderx0
import Derived.Test.YtfcjbdkipcpjcaaPFnOrderx1
import Derived.Test.YtfcjbdkipcpjcaaPFnOrderx2
import Derived.Test.YtfcjbdkipcpjcaaPFnOrderx3
import Derived.Test.YtfcjbdkipcpjcaaPFnOrderx4
namespace Go.Proofs.Ytfcjbdkipcpjcaa.PFnOrder
open Go.RowKit Go.Proofs.YtfcjbdkipcpjcaaW.PrintWords Go.Proofs.YtfcjbdkipcpjcaaW.PrintLast Go.Proofs.YtfcjbdkipcpjcaaW.PrintMore
attribute [local go_sem] max2_int min2_int max_two min_two max_three min_three max_four min_four   -- for this text's walks alone
set_option linter.unusedVariables false
set_option linter.unusedSimpArgs false

end Go.Proofs.Ytfcjbdkipcpjcaa.PFnOrder
