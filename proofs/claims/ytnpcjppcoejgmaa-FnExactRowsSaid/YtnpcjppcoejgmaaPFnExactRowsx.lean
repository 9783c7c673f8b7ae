/- The walk of what a law reaches, for the law's row: written by a program of this session; it has no condition of its own. -/
import Derived.Test.YtnpcjppcoejgmaaPFnExactRowsx0
import Derived.Test.YtnpcjppcoejgmaaPFnExactRowsx1
import Derived.Test.YtnpcjppcoejgmaaPFnExactRowsx2
import Derived.Test.YtnpcjppcoejgmaaPFnExactRowsx3
import Derived.Test.YtnpcjppcoejgmaaPFnExactRowsx4
import Derived.Test.YtnpcjppcoejgmaaPFnExactRowsx5
import Derived.Test.YtnpcjppcoejgmaaPFnExactRowsx6
namespace Go.Proofs.Ytnpcjppcoejgmaa.PFnExactRows
open Go.RowKit Go.Proofs.YtnpcjppcoejgmaaW.PrintWords Go.Proofs.YtnpcjppcoejgmaaW.PrintLast Go.Proofs.YtnpcjppcoejgmaaW.PrintMore
attribute [local go_sem] max2_int min2_int max_two min_two max_three min_three max_four min_four   -- for this text's walks alone
set_option linter.unusedVariables false
set_option linter.unusedSimpArgs false

end Go.Proofs.Ytnpcjppcoejgmaa.PFnExactRows
