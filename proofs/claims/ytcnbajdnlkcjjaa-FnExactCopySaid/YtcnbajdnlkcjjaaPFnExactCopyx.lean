/- The walk of what a law reaches, for the law's row: written by a program of this session; it has no condition of its own. -/
import Derived.Test.YtcnbajdnlkcjjaaPFnExactCopyx0
import Derived.Test.YtcnbajdnlkcjjaaPFnExactCopyx1
import Derived.Test.YtcnbajdnlkcjjaaPFnExactCopyx2
import Derived.Test.YtcnbajdnlkcjjaaPFnExactCopyx3
import Derived.Test.YtcnbajdnlkcjjaaPFnExactCopyx4
import Derived.Test.YtcnbajdnlkcjjaaPFnExactCopyx5
import Derived.Test.YtcnbajdnlkcjjaaPFnExactCopyx6
import Derived.Test.YtcnbajdnlkcjjaaPFnExactCopyx7
import Derived.Test.YtcnbajdnlkcjjaaPFnExactCopyx8
import Derived.Test.YtcnbajdnlkcjjaaPFnExactCopyx9p2
namespace Go.Proofs.Ytcnbajdnlkcjjaa.PFnExactCopy
open Go.RowKit Go.Proofs.YtcnbajdnlkcjjaaW.PrintWords Go.Proofs.YtcnbajdnlkcjjaaW.PrintLast Go.Proofs.YtcnbajdnlkcjjaaW.PrintMore
attribute [local go_sem] max2_int min2_int max_two min_two max_three min_three max_four min_four   -- for this text's walks alone
set_option linter.unusedVariables false
set_option linter.unusedSimpArgs false

end Go.Proofs.Ytcnbajdnlkcjjaa.PFnExactCopy
