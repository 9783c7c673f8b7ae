/- Words that the walks of this seat lean on: the print's own, shortened by a program of this session to what is reached. They have no condition of their own. -/
import Derived.Test.YtkjcpgjhpfocmaaWInv
import Derived.Test.YtkjcpgjhpfocmaaWFootNe
namespace Go.Proofs.YtkjcpgjhpfocmaaW.PrintWords
open Go.RowKit
end Go.Proofs.YtkjcpgjhpfocmaaW.PrintWords
namespace Go.Proofs.YtkjcpgjhpfocmaaW.PrintLast
section
variable {ops : Array Oper} {a : Act} {o og : Oper} {g : Nat} {t : Tmp} {u : Bool}
end
end Go.Proofs.YtkjcpgjhpfocmaaW.PrintLast
