/- Words that the walks of this seat lean on: the print's own, shortened by a program of this session to what is reached. They have no condition of their own. -/
import Derived.Test.YtbiggdlopnpcbaaWInv
import Derived.Test.YtbiggdlopnpcbaaWFootNe
namespace Go.Proofs.YtbiggdlopnpcbaaW.PrintWords
open Go.RowKit
end Go.Proofs.YtbiggdlopnpcbaaW.PrintWords
namespace Go.Proofs.YtbiggdlopnpcbaaW.PrintLast
section
variable {ops : Array Oper} {a : Act} {o og : Oper} {g : Nat} {t : Tmp} {u : Bool}
end
end Go.Proofs.YtbiggdlopnpcbaaW.PrintLast
