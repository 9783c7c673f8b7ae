/- Words that the walks of this seat lean on: the print's own, shortened by a program of this session to what is reached. They have no condition of their own. -/
import Derived.Test.YtcnbajdnlkcjjaaWInv
import Derived.Test.YtcnbajdnlkcjjaaWFootNe
namespace Go.Proofs.YtcnbajdnlkcjjaaW.PrintWords
open Go.RowKit
end Go.Proofs.YtcnbajdnlkcjjaaW.PrintWords
namespace Go.Proofs.YtcnbajdnlkcjjaaW.PrintLast
section
variable {ops : Array Oper} {a : Act} {o og : Oper} {g : Nat} {t : Tmp} {u : Bool}
end
end Go.Proofs.YtcnbajdnlkcjjaaW.PrintLast
