/- Words that the walks of this seat lean on: the print's own, shortened by a program of this session to what is reached. They have no condition of their own. -/
import Derived.Test.YtjkbndfaemjjiaaWInv
import Derived.Test.YtjkbndfaemjjiaaWFootNe
namespace Go.Proofs.YtjkbndfaemjjiaaW.PrintWords
open Go.RowKit
end Go.Proofs.YtjkbndfaemjjiaaW.PrintWords
namespace Go.Proofs.YtjkbndfaemjjiaaW.PrintLast
section
variable {ops : Array Oper} {a : Act} {o og : Oper} {g : Nat} {t : Tmp} {u : Bool}
end
end Go.Proofs.YtjkbndfaemjjiaaW.PrintLast
