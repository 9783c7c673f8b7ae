/- The walk of what a law reaches, for the law's row: written by a program of this session; it has no condition of its own. -/
import Derived.Test.YtcnbajdnlkcjjaaPFnExactJoinx0
import Derived.Test.YtcnbajdnlkcjjaaPFnExactJoinx1
import Derived.Test.YtcnbajdnlkcjjaaPFnExactJoinx2
import Derived.Test.YtcnbajdnlkcjjaaPFnExactJoinx3p2
import Derived.Test.YtcnbajdnlkcjjaaPFnExactJoinx4
import Derived.Test.YtcnbajdnlkcjjaaPFnExactJoinx5
import Derived.Test.YtcnbajdnlkcjjaaPFnExactJoinx6
import Derived.Test.YtcnbajdnlkcjjaaPFnExactJoinx7
import Derived.Test.YtcnbajdnlkcjjaaPFnExactJoinx8p2
namespace Go.Proofs.Ytcnbajdnlkcjjaa.PFnExactJoin
open Go.RowKit Go.Proofs.YtcnbajdnlkcjjaaW.PrintWords Go.Proofs.YtcnbajdnlkcjjaaW.PrintLast Go.Proofs.YtcnbajdnlkcjjaaW.PrintMore
attribute [local go_sem] max2_int min2_int max_two min_two max_three min_three max_four min_four   -- for this text's walks alone
set_option linter.unusedVariables false
set_option linter.unusedSimpArgs false

end Go.Proofs.Ytcnbajdnlkcjjaa.PFnExactJoin
