/- The walk of what a law reaches, for the law's row: written by a program of this session; it has no condition of its own. -/
import Derived.Test.YtjkbndfaemjjiaaPFnExactEachTwox0
import Derived.Test.YtjkbndfaemjjiaaPFnExactEachTwox1
import Derived.Test.YtjkbndfaemjjiaaPFnExactEachTwox2
import Derived.Test.YtjkbndfaemjjiaaPFnExactEachTwox3
import Derived.Test.YtjkbndfaemjjiaaPFnExactEachTwox4
import Derived.Test.YtjkbndfaemjjiaaPFnExactEachTwox5
import Derived.Test.YtjkbndfaemjjiaaPFnExactEachTwox6
import Derived.Test.YtjkbndfaemjjiaaPFnExactEachTwox7
import Derived.Test.YtjkbndfaemjjiaaPFnExactEachTwox8
import Derived.Test.YtjkbndfaemjjiaaPFnExactEachTwox9
import Derived.Test.YtjkbndfaemjjiaaPFnExactEachTwox10p2
namespace Go.Proofs.Ytjkbndfaemjjiaa.PFnExactEachTwo
open Go.RowKit Go.Proofs.YtjkbndfaemjjiaaW.PrintWords Go.Proofs.YtjkbndfaemjjiaaW.PrintLast Go.Proofs.YtjkbndfaemjjiaaW.PrintMore
attribute [local go_sem] max2_int min2_int max_two min_two max_three min_three max_four min_four   -- for this text's walks alone
set_option linter.unusedVariables false
set_option linter.unusedSimpArgs false

end Go.Proofs.Ytjkbndfaemjjiaa.PFnExactEachTwo
