-- PRINTED BY print.sh 35421559b90ae4d0a3588c463048766b98c2df88dd9212a6774a882060cdf62d: not written by this session
import Derived.Test.YtndmfjgdibklkaaProg
import Derived.Below
import Derived.Deep.Draws
import Derived.Deep.AppendLies
import Derived.Maps.AppendAt
import Derived.OwnWalk
import Derived.Laws.BytesArg
import Derived.Laws.MakeOwn
import Derived.Laws.OwnMore
import Derived.Deep.OwnRows
import Derived.Tactics
import Derived.Lib.ConvBytes
import Derived.Laws.Slices
import Derived.WalkKit
import Derived.KernelRfl
import Derived.RowKit3
import Derived.Deep.LoopGhost
import Derived.Deep.QuietTactic
import Derived.BigQuiet
import Derived.WideLaws
import Derived.Deep.DeepCutAuto
import Derived.Deep.CutBlock
import Derived.Deep.RegionHeld3
import Derived.Laws.Rows
import Derived.Lib.AppendStr
import Derived.ArgAppend
import Derived.Laws.IdiomCopy
import Derived.OrdersHeld
import Derived.Laws.BitsLemmas
import Derived.RowKit
import Derived.Test.YtndmfjgdibklkaaWWords
import Derived.Test.YtndmfjgdibklkaaWLast
import Derived.Test.YtndmfjgdibklkaaWTab
import Derived.Test.YtndmfjgdibklkaaWFour
import Derived.Test.YtndmfjgdibklkaaWQPut
import Derived.Test.YtndmfjgdibklkaaWApart
import Derived.Test.YtndmfjgdibklkaaWArr
import Derived.Test.YtndmfjgdibklkaaWZeros
import Derived.Test.YtndmfjgdibklkaaWFoot
import Derived.Test.YtndmfjgdibklkaaWKept
import Derived.Test.YtndmfjgdibklkaaWShare
import Derived.Test.YtndmfjgdibklkaaWN
import Derived.Test.YtndmfjgdibklkaaWFootNe
import Derived.Test.YtndmfjgdibklkaaWAt
import Derived.Test.YtndmfjgdibklkaaWEqStruct
import Derived.Test.YtndmfjgdibklkaaWRepsOne
import Derived.Test.YtndmfjgdibklkaaWInv
import Derived.Test.YtndmfjgdibklkaaWInvWords
import Derived.Test.YtndmfjgdibklkaaWGuard
import Derived.Test.YtndmfjgdibklkaaWNEv
import Derived.Test.YtndmfjgdibklkaaWMore
namespace Go.Proofs.Ytndmfjgdibklkaa.PFnExactShapeOk
open Go.RowKit Go.Proofs.YtndmfjgdibklkaaW.PrintWords Go.Proofs.YtndmfjgdibklkaaW.PrintLast Go.Proofs.YtndmfjgdibklkaaW.PrintMore
attribute [local go_sem] max2_int min2_int max_two min_two max_three min_three max_four min_four   -- for this text's walks alone
set_option linter.unusedVariables false
set_option linter.unusedSimpArgs false



def errW : Option Int → Value
  | none => .nilIface
  | some c => .iface 0 (.int .i64 c)
theorem errW_none : errW none = .nilIface := rfl
theorem errW_some (c : Int) : errW (some c) = .iface 0 (.int .i64 c) := rfl

theorem info3 : (Try.prog.info? 3).map (fun i => (i.zero, i.size, i.bytes)) = some (some (.int .i64 0), 1, 8) := by kernel_rfl
-- the values' own types

end Go.Proofs.Ytndmfjgdibklkaa.PFnExactShapeOk
