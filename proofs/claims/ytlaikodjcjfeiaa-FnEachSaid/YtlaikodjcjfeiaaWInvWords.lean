/- Words that the walks of this seat lean on: the print's own, shortened by a program of this session to what is reached. They have no condition of their own. -/
import Derived.Test.YtlaikodjcjfeiaaWInv
import Derived.Test.YtlaikodjcjfeiaaWFootNe
namespace Go.Proofs.YtlaikodjcjfeiaaW.PrintWords
open Go.RowKit
end Go.Proofs.YtlaikodjcjfeiaaW.PrintWords
namespace Go.Proofs.YtlaikodjcjfeiaaW.PrintLast
section
variable {ops : Array Oper} {a : Act} {o og : Oper} {g : Nat} {t : Tmp} {u : Bool}
end
end Go.Proofs.YtlaikodjcjfeiaaW.PrintLast
