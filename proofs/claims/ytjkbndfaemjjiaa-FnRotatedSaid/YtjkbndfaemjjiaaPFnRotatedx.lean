/- The walk of what a law reaches, for the law's row: written by a program of this session; it has no condition of its own. -/
import Derived.Test.YtjkbndfaemjjiaaPFnRotatedx0
import Derived.Test.YtjkbndfaemjjiaaPFnRotatedx1
import Derived.Test.YtjkbndfaemjjiaaPFnRotatedx2
import Derived.Test.YtjkbndfaemjjiaaPFnRotatedx3
import Derived.Test.YtjkbndfaemjjiaaPFnRotatedx4
import Derived.Test.YtjkbndfaemjjiaaPFnRotatedx5
import Derived.Test.YtjkbndfaemjjiaaPFnRotatedx6
import Derived.Test.YtjkbndfaemjjiaaPFnRotatedx7
import Derived.Test.YtjkbndfaemjjiaaPFnRotatedx8
import Derived.Test.YtjkbndfaemjjiaaPFnRotatedx9
import Derived.Test.YtjkbndfaemjjiaaPFnRotatedx10
import Derived.Test.YtjkbndfaemjjiaaPFnRotatedx11
import Derived.Test.YtjkbndfaemjjiaaPFnRotatedx12
namespace Go.Proofs.Ytjkbndfaemjjiaa.PFnRotated
open Go.RowKit Go.Proofs.YtjkbndfaemjjiaaW.PrintWords Go.Proofs.YtjkbndfaemjjiaaW.PrintLast Go.Proofs.YtjkbndfaemjjiaaW.PrintMore
attribute [local go_sem] max2_int min2_int max_two min_two max_three min_three max_four min_four   -- for this text's walks alone
set_option linter.unusedVariables false
set_option linter.unusedSimpArgs false

end Go.Proofs.Ytjkbndfaemjjiaa.PFnRotated
