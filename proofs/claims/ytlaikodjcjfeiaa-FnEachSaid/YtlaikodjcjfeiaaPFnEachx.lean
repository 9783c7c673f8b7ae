/- The walk of what a law reaches, for the law's row: written by a program of this session; it has no condition of its own. -/
import Derived.Test.YtlaikodjcjfeiaaPFnEachx0
import Derived.Test.YtlaikodjcjfeiaaPFnEachx1
import Derived.Test.YtlaikodjcjfeiaaPFnEachx2
import Derived.Test.YtlaikodjcjfeiaaPFnEachx3
import Derived.Test.YtlaikodjcjfeiaaPFnEachx4
import Derived.Test.YtlaikodjcjfeiaaPFnEachx5
import Derived.Test.YtlaikodjcjfeiaaPFnEachx6
import Derived.Test.YtlaikodjcjfeiaaPFnEachx7
import Derived.Test.YtlaikodjcjfeiaaPFnEachx8
import Derived.Test.YtlaikodjcjfeiaaPFnEachx9
import Derived.Test.YtlaikodjcjfeiaaPFnEachx10
import Derived.Test.YtlaikodjcjfeiaaPFnEachx11
import Derived.Test.YtlaikodjcjfeiaaPFnEachx12
import Derived.Test.YtlaikodjcjfeiaaPFnEachx13
namespace Go.Proofs.Ytlaikodjcjfeiaa.PFnEach
open Go.RowKit Go.Proofs.YtlaikodjcjfeiaaW.PrintWords Go.Proofs.YtlaikodjcjfeiaaW.PrintLast Go.Proofs.YtlaikodjcjfeiaaW.PrintMore
attribute [local go_sem] max2_int min2_int max_two min_two max_three min_three max_four min_four   -- for this text's walks alone
set_option linter.unusedVariables false
set_option linter.unusedSimpArgs false

end Go.Proofs.Ytlaikodjcjfeiaa.PFnEach
