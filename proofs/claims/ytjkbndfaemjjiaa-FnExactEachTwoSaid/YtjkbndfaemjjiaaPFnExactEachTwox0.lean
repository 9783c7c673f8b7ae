/- The walk of what a law reaches, for the law's row: written by a program of this session; it has no condition of its own. -/
import Derived.Test.YtjkbndfaemjjiaaProg
import Derived.Below
import Derived.Deep.Draws
import Derived.Deep.AppendLies
import Derived.Maps.AppendAt
import Derived.OwnWalk
import Derived.Laws.BytesArg
import Derived.Laws.MakeOwn
import Derived.Laws.OwnMore
import Derived.Deep.OwnRows
import Derived.Tactics
import Derived.Lib.ConvBytes
import Derived.Laws.Slices
import Derived.WalkKit
import Derived.KernelRfl
import Derived.RowKit3
import Derived.Deep.LoopGhost
import Derived.Deep.QuietTactic
import Derived.BigQuiet
import Derived.WideLaws
import Derived.Deep.DeepCutAuto
import Derived.Deep.CutBlock
import Derived.Deep.RegionHeld3
import Derived.Laws.Rows
import Derived.Lib.AppendStr
import Derived.ArgAppend
import Derived.Laws.IdiomCopy
import Derived.OrdersHeld
import Derived.Laws.BitsLemmas
import Derived.RowKit
import Derived.Test.YtjkbndfaemjjiaaWWords
import Derived.Test.YtjkbndfaemjjiaaWLast
import Derived.Test.YtjkbndfaemjjiaaWTab
import Derived.Test.YtjkbndfaemjjiaaWFour
import Derived.Test.YtjkbndfaemjjiaaWQPut
import Derived.Test.YtjkbndfaemjjiaaWApart
import Derived.Test.YtjkbndfaemjjiaaWArr
import Derived.Test.YtjkbndfaemjjiaaWZeros
import Derived.Test.YtjkbndfaemjjiaaWFoot
import Derived.Test.YtjkbndfaemjjiaaWKept
import Derived.Test.YtjkbndfaemjjiaaWShare
import Derived.Test.YtjkbndfaemjjiaaWN
import Derived.Test.YtjkbndfaemjjiaaWFootNe
import Derived.Test.YtjkbndfaemjjiaaWAt
import Derived.Test.YtjkbndfaemjjiaaWEqStruct
import Derived.Test.YtjkbndfaemjjiaaWRepsOne
import Derived.Test.YtjkbndfaemjjiaaWInv
import Derived.Test.YtjkbndfaemjjiaaWInvWords
import Derived.Test.YtjkbndfaemjjiaaWGuard
import Derived.Test.YtjkbndfaemjjiaaWNEv
import Derived.Test.YtjkbndfaemjjiaaWMore
namespace Go.Proofs.Ytjkbndfaemjjiaa.PFnExactEachTwo
open Go.RowKit Go.Proofs.YtjkbndfaemjjiaaW.PrintWords Go.Proofs.YtjkbndfaemjjiaaW.PrintLast Go.Proofs.YtjkbndfaemjjiaaW.PrintMore
attribute [local go_sem] max2_int min2_int max_two min_two max_three min_three max_four min_four   -- for this text's walks alone
set_option linter.unusedVariables false
set_option linter.unusedSimpArgs false



def errW : Option Int → Value
  | none => .nilIface
  | some c => .iface 0 (.int .i64 c)
theorem errW_none : errW none = .nilIface := rfl
theorem errW_some (c : Int) : errW (some c) = .iface 0 (.int .i64 c) := rfl

theorem info3 : (Try.prog.info? 3).map (fun i => (i.zero, i.size, i.bytes)) = some (some (.int .i64 0), 1, 8) := by kernel_rfl
-- the values' own types

end Go.Proofs.Ytjkbndfaemjjiaa.PFnExactEachTwo
