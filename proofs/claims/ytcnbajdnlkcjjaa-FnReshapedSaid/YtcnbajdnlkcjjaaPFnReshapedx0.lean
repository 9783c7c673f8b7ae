/- The walk of what a law reaches, for the law's row: written by a program of this session; it has no condition of its own. -/
import Derived.Test.YtcnbajdnlkcjjaaProg
import Derived.Below
import Derived.Deep.Draws
import Derived.Deep.AppendLies
import Derived.Maps.AppendAt
import Derived.OwnWalk
import Derived.Laws.BytesArg
import Derived.Laws.MakeOwn
import Derived.Laws.OwnMore
import Derived.Deep.OwnRows
import Derived.Tactics
import Derived.Lib.ConvBytes
import Derived.Laws.Slices
import Derived.WalkKit
import Derived.KernelRfl
import Derived.RowKit3
import Derived.Deep.LoopGhost
import Derived.Deep.QuietTactic
import Derived.BigQuiet
import Derived.WideLaws
import Derived.Deep.DeepCutAuto
import Derived.Deep.CutBlock
import Derived.Deep.RegionHeld3
import Derived.Laws.Rows
import Derived.Lib.AppendStr
import Derived.ArgAppend
import Derived.Laws.IdiomCopy
import Derived.OrdersHeld
import Derived.Laws.BitsLemmas
import Derived.RowKit
import Derived.Test.YtcnbajdnlkcjjaaWWords
import Derived.Test.YtcnbajdnlkcjjaaWLast
import Derived.Test.YtcnbajdnlkcjjaaWTab
import Derived.Test.YtcnbajdnlkcjjaaWFour
import Derived.Test.YtcnbajdnlkcjjaaWQPut
import Derived.Test.YtcnbajdnlkcjjaaWApart
import Derived.Test.YtcnbajdnlkcjjaaWArr
import Derived.Test.YtcnbajdnlkcjjaaWZeros
import Derived.Test.YtcnbajdnlkcjjaaWFoot
import Derived.Test.YtcnbajdnlkcjjaaWKept
import Derived.Test.YtcnbajdnlkcjjaaWShare
import Derived.Test.YtcnbajdnlkcjjaaWN
import Derived.Test.YtcnbajdnlkcjjaaWFootNe
import Derived.Test.YtcnbajdnlkcjjaaWAt
import Derived.Test.YtcnbajdnlkcjjaaWEqStruct
import Derived.Test.YtcnbajdnlkcjjaaWRepsOne
import Derived.Test.YtcnbajdnlkcjjaaWInv
import Derived.Test.YtcnbajdnlkcjjaaWInvWords
import Derived.Test.YtcnbajdnlkcjjaaWGuard
import Derived.Test.YtcnbajdnlkcjjaaWNEv
import Derived.Test.YtcnbajdnlkcjjaaWMore
namespace Go.Proofs.Ytcnbajdnlkcjjaa.PFnReshaped
open Go.RowKit Go.Proofs.YtcnbajdnlkcjjaaW.PrintWords Go.Proofs.YtcnbajdnlkcjjaaW.PrintLast Go.Proofs.YtcnbajdnlkcjjaaW.PrintMore
attribute [local go_sem] max2_int min2_int max_two min_two max_three min_three max_four min_four   -- for this text's walks alone
set_option linter.unusedVariables false
set_option linter.unusedSimpArgs false



def errW : Option Int → Value
  | none => .nilIface
  | some c => .iface 0 (.int .i64 c)
theorem errW_none : errW none = .nilIface := rfl
theorem errW_some (c : Int) : errW (some c) = .iface 0 (.int .i64 c) := rfl

theorem info3 : (Try.prog.info? 3).map (fun i => (i.zero, i.size, i.bytes)) = some (some (.int .i64 0), 1, 8) := by kernel_rfl
-- the values' own types

end Go.Proofs.Ytcnbajdnlkcjjaa.PFnReshaped
