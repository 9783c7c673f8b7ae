/- Words that the walks of this seat lean on: the print's own, shortened by a program of this session to what is reached. They have no condition of their own. -/
import Derived.SizedLaws
import Derived.ChangeSlices
namespace Go.Proofs.YtnpcjppcoejgmaaW.PrintWords
open Go.ChangeShapes Go.WideShapes
end Go.Proofs.YtnpcjppcoejgmaaW.PrintWords
