/- The walk of what a law reaches, for the law's row: written by a program of this session; it has no condition of its own. -/
import Derived.Test.YtkjcpgjhpfocmaaPFnTurnedx0
import Derived.Test.YtkjcpgjhpfocmaaPFnTurnedx1
import Derived.Test.YtkjcpgjhpfocmaaPFnTurnedx2
import Derived.Test.YtkjcpgjhpfocmaaPFnTurnedx3
import Derived.Test.YtkjcpgjhpfocmaaPFnTurnedx4
import Derived.Test.YtkjcpgjhpfocmaaPFnTurnedx5
import Derived.Test.YtkjcpgjhpfocmaaPFnTurnedx6
import Derived.Test.YtkjcpgjhpfocmaaPFnTurnedx7
import Derived.Test.YtkjcpgjhpfocmaaPFnTurnedx8
import Derived.Test.YtkjcpgjhpfocmaaPFnTurnedx9
import Derived.Test.YtkjcpgjhpfocmaaPFnTurnedx10
import Derived.Test.YtkjcpgjhpfocmaaPFnTurnedx11
namespace Go.Proofs.Ytkjcpgjhpfocmaa.PFnTurned
open Go.RowKit Go.Proofs.YtkjcpgjhpfocmaaW.PrintWords Go.Proofs.YtkjcpgjhpfocmaaW.PrintLast Go.Proofs.YtkjcpgjhpfocmaaW.PrintMore
attribute [local go_sem] max2_int min2_int max_two min_two max_three min_three max_four min_four   -- for this text's walks alone
set_option linter.unusedVariables false
set_option linter.unusedSimpArgs false

end Go.Proofs.Ytkjcpgjhpfocmaa.PFnTurned
