/- Words that the walks of this seat lean on: the print's own, shortened by a program of this session to what is reached. They have no condition of their own. -/
import Derived.Test.YtnpcjppcoejgmaaWWords
namespace Go.Proofs.YtnpcjppcoejgmaaW.PrintWords
open Go.RowKit
section
variable {P : Program} {ops : Array Oper} {rest : List Oper} {o : Oper} {a : Act} {Q : Exit → Act → World → Prop} {W : World}
theorem gate_guard (hw : Region.wanted o (yielded ops a.tmps) = true) (h : wpList P ops Q ({ o with guard := none } :: rest) a W) : wpList P ops Q (o :: rest) a W := by
  have h1 : Region.wanted { o with guard := none } (yielded ops a.tmps) = true := rfl
  unfold wpList at h ⊢
  rw [if_pos h1] at h
  rw [if_pos hw]
  exact h
end
end Go.Proofs.YtnpcjppcoejgmaaW.PrintWords
