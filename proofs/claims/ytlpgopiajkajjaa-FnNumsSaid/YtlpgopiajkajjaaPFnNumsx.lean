/- The walk of what a law reaches, for the law's row: written by a program of this session; it has no condition of its own. -/
import Derived.Test.YtlpgopiajkajjaaPFnNumsx0
import Derived.Test.YtlpgopiajkajjaaPFnNumsx1
import Derived.Test.YtlpgopiajkajjaaPFnNumsx2
import Derived.Test.YtlpgopiajkajjaaPFnNumsx3
import Derived.Test.YtlpgopiajkajjaaPFnNumsx4
import Derived.Test.YtlpgopiajkajjaaPFnNumsx5
namespace Go.Proofs.Ytlpgopiajkajjaa.PFnNums
open Go.RowKit Go.Proofs.YtlpgopiajkajjaaW.PrintWords Go.Proofs.YtlpgopiajkajjaaW.PrintLast Go.Proofs.YtlpgopiajkajjaaW.PrintMore
attribute [local go_sem] max2_int min2_int max_two min_two max_three min_three max_four min_four   -- for this text's walks alone
set_option linter.unusedVariables false
set_option linter.unusedSimpArgs false

end Go.Proofs.Ytlpgopiajkajjaa.PFnNums
