/- The walk of what a law reaches, for the law's row: written by a program of this session; it has no condition of its own. -/
import Derived.Test.YtlaikodjcjfeiaaPFnExactReshapex0
import Derived.Test.YtlaikodjcjfeiaaPFnExactReshapex1
import Derived.Test.YtlaikodjcjfeiaaPFnExactReshapex2
import Derived.Test.YtlaikodjcjfeiaaPFnExactReshapex3
import Derived.Test.YtlaikodjcjfeiaaPFnExactReshapex4
import Derived.Test.YtlaikodjcjfeiaaPFnExactReshapex5
import Derived.Test.YtlaikodjcjfeiaaPFnExactReshapex6p3
namespace Go.Proofs.Ytlaikodjcjfeiaa.PFnExactReshape
open Go.RowKit Go.Proofs.YtlaikodjcjfeiaaW.PrintWords Go.Proofs.YtlaikodjcjfeiaaW.PrintLast Go.Proofs.YtlaikodjcjfeiaaW.PrintMore
attribute [local go_sem] max2_int min2_int max_two min_two max_three min_three max_four min_four   -- for this text's walks alone
set_option linter.unusedVariables false
set_option linter.unusedSimpArgs false

end Go.Proofs.Ytlaikodjcjfeiaa.PFnExactReshape
