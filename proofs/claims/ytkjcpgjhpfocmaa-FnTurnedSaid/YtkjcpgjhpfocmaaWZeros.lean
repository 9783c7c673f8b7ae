/- Words that the walks of this seat lean on: the print's own, shortened by a program of this session to what is reached. They have no condition of their own. -/
import Derived.Test.YtkjcpgjhpfocmaaWApart
import Derived.Test.YtkjcpgjhpfocmaaWArr
namespace Go.Proofs.YtkjcpgjhpfocmaaW.PrintWords
open Go.RowKit
section
variable {P : Program}
end
namespace Kd
section
variable {P : Program} {ops : Array Oper} {rest : List Oper} {o : Oper} {a : Act} {Q : Exit → Act → World → Prop} {Kc : Act → World → Prop} {α : Type}
end
section
variable {α : Type} {d : Kd α} {e : Nat} {w : World} {base : Nat} {ok : Nat → Prop} {v : Value} {xs : List α}
end
section
variable {P : Program} {ops : Array Oper} {rest : List Oper} {o : Oper} {a : Act} {Q : Exit → Act → World → Prop} {Kc : Act → World → Prop} {α : Type}
end
end Kd
end Go.Proofs.YtkjcpgjhpfocmaaW.PrintWords
