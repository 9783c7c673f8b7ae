/- The walk of what a law reaches, for the law's row: written by a program of this session; it has no condition of its own. -/
import Derived.Test.YtcnbajdnlkcjjaaPFnExactTurnx0
import Derived.Test.YtcnbajdnlkcjjaaPFnExactTurnx1
import Derived.Test.YtcnbajdnlkcjjaaPFnExactTurnx2
import Derived.Test.YtcnbajdnlkcjjaaPFnExactTurnx3
import Derived.Test.YtcnbajdnlkcjjaaPFnExactTurnx4
import Derived.Test.YtcnbajdnlkcjjaaPFnExactTurnx5
import Derived.Test.YtcnbajdnlkcjjaaPFnExactTurnx6
import Derived.Test.YtcnbajdnlkcjjaaPFnExactTurnx7
namespace Go.Proofs.Ytcnbajdnlkcjjaa.PFnExactTurn
open Go.RowKit Go.Proofs.YtcnbajdnlkcjjaaW.PrintWords Go.Proofs.YtcnbajdnlkcjjaaW.PrintLast Go.Proofs.YtcnbajdnlkcjjaaW.PrintMore
attribute [local go_sem] max2_int min2_int max_two min_two max_three min_three max_four min_four   -- for this text's walks alone
set_option linter.unusedVariables false
set_option linter.unusedSimpArgs false

end Go.Proofs.Ytcnbajdnlkcjjaa.PFnExactTurn
