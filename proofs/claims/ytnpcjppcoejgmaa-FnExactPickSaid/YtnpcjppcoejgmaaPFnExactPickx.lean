/- The walk of what a law reaches, for the law's row: written by a program of this session; it has no condition of its own. -/
import Derived.Test.YtnpcjppcoejgmaaPFnExactPickx0
import Derived.Test.YtnpcjppcoejgmaaPFnExactPickx1
import Derived.Test.YtnpcjppcoejgmaaPFnExactPickx2
import Derived.Test.YtnpcjppcoejgmaaPFnExactPickx3
import Derived.Test.YtnpcjppcoejgmaaPFnExactPickx4
import Derived.Test.YtnpcjppcoejgmaaPFnExactPickx5
import Derived.Test.YtnpcjppcoejgmaaPFnExactPickx6
import Derived.Test.YtnpcjppcoejgmaaPFnExactPickx7
import Derived.Test.YtnpcjppcoejgmaaPFnExactPickx8
import Derived.Test.YtnpcjppcoejgmaaPFnExactPickx9p2
namespace Go.Proofs.Ytnpcjppcoejgmaa.PFnExactPick
open Go.RowKit Go.Proofs.YtnpcjppcoejgmaaW.PrintWords Go.Proofs.YtnpcjppcoejgmaaW.PrintLast Go.Proofs.YtnpcjppcoejgmaaW.PrintMore
attribute [local go_sem] max2_int min2_int max_two min_two max_three min_three max_four min_four   -- for this text's walks alone
set_option linter.unusedVariables false
set_option linter.unusedSimpArgs false

end Go.Proofs.Ytnpcjppcoejgmaa.PFnExactPick
