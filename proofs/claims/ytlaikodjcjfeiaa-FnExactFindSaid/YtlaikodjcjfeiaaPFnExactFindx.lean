/- The walk of what a law reaches, for the law's row: written by a program of this session; it has no condition of its own. -/
import Derived.Test.YtlaikodjcjfeiaaPFnExactFindx0
import Derived.Test.YtlaikodjcjfeiaaPFnExactFindx1
import Derived.Test.YtlaikodjcjfeiaaPFnExactFindx2
import Derived.Test.YtlaikodjcjfeiaaPFnExactFindx3
import Derived.Test.YtlaikodjcjfeiaaPFnExactFindx4
import Derived.Test.YtlaikodjcjfeiaaPFnExactFindx5
import Derived.Test.YtlaikodjcjfeiaaPFnExactFindx6p3
namespace Go.Proofs.Ytlaikodjcjfeiaa.PFnExactFind
open Go.RowKit Go.Proofs.YtlaikodjcjfeiaaW.PrintWords Go.Proofs.YtlaikodjcjfeiaaW.PrintLast Go.Proofs.YtlaikodjcjfeiaaW.PrintMore
attribute [local go_sem] max2_int min2_int max_two min_two max_three min_three max_four min_four   -- for this text's walks alone
set_option linter.unusedVariables false
set_option linter.unusedSimpArgs false

end Go.Proofs.Ytlaikodjcjfeiaa.PFnExactFind
