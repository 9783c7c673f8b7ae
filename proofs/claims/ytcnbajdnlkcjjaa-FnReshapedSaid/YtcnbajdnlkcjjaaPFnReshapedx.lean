/- The walk of what a law reaches, for the law's row: written by a program of this session; it has no condition of its own. -/
import Derived.Test.YtcnbajdnlkcjjaaPFnReshapedx0
import Derived.Test.YtcnbajdnlkcjjaaPFnReshapedx1
import Derived.Test.YtcnbajdnlkcjjaaPFnReshapedx2
import Derived.Test.YtcnbajdnlkcjjaaPFnReshapedx3
import Derived.Test.YtcnbajdnlkcjjaaPFnReshapedx4
import Derived.Test.YtcnbajdnlkcjjaaPFnReshapedx5
import Derived.Test.YtcnbajdnlkcjjaaPFnReshapedx6
import Derived.Test.YtcnbajdnlkcjjaaPFnReshapedx7
import Derived.Test.YtcnbajdnlkcjjaaPFnReshapedx8
namespace Go.Proofs.Ytcnbajdnlkcjjaa.PFnReshaped
open Go.RowKit Go.Proofs.YtcnbajdnlkcjjaaW.PrintWords Go.Proofs.YtcnbajdnlkcjjaaW.PrintLast Go.Proofs.YtcnbajdnlkcjjaaW.PrintMore
attribute [local go_sem] max2_int min2_int max_two min_two max_three min_three max_four min_four   -- for this text's walks alone
set_option linter.unusedVariables false
set_option linter.unusedSimpArgs false

end Go.Proofs.Ytcnbajdnlkcjjaa.PFnReshaped
