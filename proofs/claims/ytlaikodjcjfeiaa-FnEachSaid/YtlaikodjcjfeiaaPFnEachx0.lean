/- The walk of what a law reaches, for the law's row: written by a program of this session; it has no condition of its own. -/
import Derived.Test.YtlaikodjcjfeiaaProg
import Derived.Below
import Derived.Deep.Draws
import Derived.Deep.AppendLies
import Derived.Maps.AppendAt
import Derived.OwnWalk
import Derived.Laws.BytesArg
import Derived.Laws.MakeOwn
import Derived.Laws.OwnMore
import Derived.Deep.OwnRows
import Derived.Tactics
import Derived.Lib.ConvBytes
import Derived.Laws.Slices
import Derived.WalkKit
import Derived.KernelRfl
import Derived.RowKit3
import Derived.Deep.LoopGhost
import Derived.Deep.QuietTactic
import Derived.BigQuiet
import Derived.WideLaws
import Derived.Deep.DeepCutAuto
import Derived.Deep.CutBlock
import Derived.Deep.RegionHeld3
import Derived.Laws.Rows
import Derived.Lib.AppendStr
import Derived.ArgAppend
import Derived.Laws.IdiomCopy
import Derived.OrdersHeld
import Derived.Laws.BitsLemmas
import Derived.RowKit
import Derived.Test.YtlaikodjcjfeiaaWWords
import Derived.Test.YtlaikodjcjfeiaaWLast
import Derived.Test.YtlaikodjcjfeiaaWTab
import Derived.Test.YtlaikodjcjfeiaaWFour
import Derived.Test.YtlaikodjcjfeiaaWQPut
import Derived.Test.YtlaikodjcjfeiaaWApart
import Derived.Test.YtlaikodjcjfeiaaWArr
import Derived.Test.YtlaikodjcjfeiaaWZeros
import Derived.Test.YtlaikodjcjfeiaaWFoot
import Derived.Test.YtlaikodjcjfeiaaWKept
import Derived.Test.YtlaikodjcjfeiaaWShare
import Derived.Test.YtlaikodjcjfeiaaWN
import Derived.Test.YtlaikodjcjfeiaaWFootNe
import Derived.Test.YtlaikodjcjfeiaaWAt
import Derived.Test.YtlaikodjcjfeiaaWEqStruct
import Derived.Test.YtlaikodjcjfeiaaWRepsOne
import Derived.Test.YtlaikodjcjfeiaaWInv
import Derived.Test.YtlaikodjcjfeiaaWInvWords
import Derived.Test.YtlaikodjcjfeiaaWGuard
import Derived.Test.YtlaikodjcjfeiaaWNEv
import Derived.Test.YtlaikodjcjfeiaaWMore
namespace Go.Proofs.Ytlaikodjcjfeiaa.PFnEach
open Go.RowKit Go.Proofs.YtlaikodjcjfeiaaW.PrintWords Go.Proofs.YtlaikodjcjfeiaaW.PrintLast Go.Proofs.YtlaikodjcjfeiaaW.PrintMore
attribute [local go_sem] max2_int min2_int max_two min_two max_three min_three max_four min_four   -- for this text's walks alone
set_option linter.unusedVariables false
set_option linter.unusedSimpArgs false



def errW : Option Int → Value
 | none => .nilIface
 | some c => .iface 0 (.int .i64 c)
theorem errW_none : errW none = .nilIface := rfl
theorem errW_some (c : Int) : errW (some c) = .iface 0 (.int .i64 c) := rfl

theorem info3 : (Try.prog.info? 3).map (fun i => (i.zero, i.size, i.bytes)) = some (some (.int .i64 0), 1, 8) := by kernel_rfl
-- the values' own types

theorem iU0 {P Q : Prop} (h : P) (f : P → Q := by intro h_; repeat (first | (with_reducible first | exact h_ | apply IsS89.alloc | apply IsS89.drewN | apply IsS89.drew | apply IsS89.set_1 | apply IsS89.set_2) | exact h_)) : Q := f h
end Go.Proofs.Ytlaikodjcjfeiaa.PFnEach
