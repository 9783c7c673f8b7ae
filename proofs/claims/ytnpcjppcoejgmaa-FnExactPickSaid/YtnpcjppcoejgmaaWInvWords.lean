/- Words that the walks of this seat lean on: the print's own, shortened by a program of this session to what is reached. They have no condition of their own. -/
import Derived.Test.YtnpcjppcoejgmaaWInv
import Derived.Test.YtnpcjppcoejgmaaWFootNe
namespace Go.Proofs.YtnpcjppcoejgmaaW.PrintWords
open Go.RowKit
end Go.Proofs.YtnpcjppcoejgmaaW.PrintWords
namespace Go.Proofs.YtnpcjppcoejgmaaW.PrintLast
section
variable {ops : Array Oper} {a : Act} {o og : Oper} {g : Nat} {t : Tmp} {u : Bool}
end
end Go.Proofs.YtnpcjppcoejgmaaW.PrintLast
