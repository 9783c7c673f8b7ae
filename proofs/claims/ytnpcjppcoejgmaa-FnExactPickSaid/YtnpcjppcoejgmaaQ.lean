/- Small lemmas that shorten the walks of this seat: a fact at one world, told at the world behind draws and new blocks. No condition of their own. -/
import Derived.Test.YtnpcjppcoejgmaaProg
import Derived.Below
import Derived.Deep.Draws
import Derived.Deep.AppendLies
import Derived.Maps.AppendAt
import Derived.OwnWalk
import Derived.Laws.BytesArg
import Derived.Laws.MakeOwn
import Derived.Laws.OwnMore
import Derived.Deep.OwnRows
import Derived.Tactics
import Derived.Lib.ConvBytes
import Derived.Laws.Slices
import Derived.WalkKit
import Derived.KernelRfl
import Derived.RowKit3
import Derived.Deep.LoopGhost
import Derived.Deep.QuietTactic
import Derived.BigQuiet
import Derived.WideLaws
import Derived.Deep.DeepCutAuto
import Derived.Deep.CutBlock
import Derived.Deep.RegionHeld3
import Derived.Laws.Rows
import Derived.Lib.AppendStr
import Derived.ArgAppend
import Derived.Laws.IdiomCopy
import Derived.OrdersHeld
import Derived.Laws.BitsLemmas
import Derived.RowKit
import Derived.Test.YtnpcjppcoejgmaaWWords
import Derived.Test.YtnpcjppcoejgmaaWLast
import Derived.Test.YtnpcjppcoejgmaaWTab
import Derived.Test.YtnpcjppcoejgmaaWFour
import Derived.Test.YtnpcjppcoejgmaaWQPut
import Derived.Test.YtnpcjppcoejgmaaWApart
import Derived.Test.YtnpcjppcoejgmaaWArr
import Derived.Test.YtnpcjppcoejgmaaWZeros
import Derived.Test.YtnpcjppcoejgmaaWFoot
import Derived.Test.YtnpcjppcoejgmaaWKept
import Derived.Test.YtnpcjppcoejgmaaWShare
import Derived.Test.YtnpcjppcoejgmaaWN
import Derived.Test.YtnpcjppcoejgmaaWFootNe
import Derived.Test.YtnpcjppcoejgmaaWAt
import Derived.Test.YtnpcjppcoejgmaaWEqStruct
import Derived.Test.YtnpcjppcoejgmaaWRepsOne
import Derived.Test.YtnpcjppcoejgmaaWInv
import Derived.Test.YtnpcjppcoejgmaaWInvWords
import Derived.Test.YtnpcjppcoejgmaaWGuard
import Derived.Test.YtnpcjppcoejgmaaWNEv
import Derived.Test.YtnpcjppcoejgmaaWMore
namespace Go.Proofs.YtnpcjppcoejgmaaQ
open Go.RowKit Go.Proofs.YtnpcjppcoejgmaaW.PrintWords Go.Proofs.YtnpcjppcoejgmaaW.PrintLast Go.Proofs.YtnpcjppcoejgmaaW.PrintMore
set_option linter.unusedVariables false
theorem RU {P Q : Prop} (h : P) (f : P → Q := by intro h_; (with_reducible repeat (first | apply Kd.R_alloc | apply Kd.R_drewN | apply Kd.R_drew)); exact h_) : Q := f h
theorem SU {P Q : Prop} (h : P) (f : P → Q := by intro h_; (with_reducible repeat (first | apply Kd.S_alloc | apply Kd.S_drewN | apply Kd.S_drew)); exact h_) : Q := f h
theorem NU {P Q : Prop} (h : P) (f : P → Q := by intro h_; (with_reducible repeat (first | apply Kd.N_alloc | apply Kd.N_drewN | apply Kd.N_drew)); exact h_) : Q := f h
theorem VU {P Q : Prop} (h : P) (f : P → Q := by intro h_; (with_reducible repeat (first | apply Kd.V_alloc | apply Kd.V_drewN | apply Kd.V_drew)); exact h_) : Q := f h
theorem kU {P Q : Prop} (h : P) (f : P → Q := by intro h_; (with_reducible repeat (first | refine blk_drewN ?_ _ | refine blk_drew ?_ | refine blk_alloc ?_ _)); exact h_) : Q := f h
theorem bU {P Q : Prop} (h : P) (f : P → Q := by intro h_; repeat (first | (with_reducible first | exact h_ | apply below_alloc | apply pw_below_drewN | apply below_drew1) | exact h_)) : Q := f h
theorem bS1 {P Q A : Prop} (h : P) (a : A) (f : P → A → Q := by intro h_ a_; repeat (first | (with_reducible first | exact h_ | apply below_alloc | apply pw_below_drewN | apply below_drew1 | refine below_set ?_ a_) | exact h_)) : Q := f h a
theorem bS2 {P Q A B : Prop} (h : P) (a : A) (b : B) (f : P → A → B → Q := by intro h_ a_ b_; repeat (first | (with_reducible first | exact h_ | apply below_alloc | apply pw_below_drewN | apply below_drew1 | refine below_set ?_ a_ | refine below_set ?_ b_) | exact h_)) : Q := f h a b
theorem bS3 {P Q A B C : Prop} (h : P) (a : A) (b : B) (c : C) (f : P → A → B → C → Q := by intro h_ a_ b_ c_; repeat (first | (with_reducible first | exact h_ | apply below_alloc | apply pw_below_drewN | apply below_drew1 | refine below_set ?_ a_ | refine below_set ?_ b_ | refine below_set ?_ c_) | exact h_)) : Q := f h a b c
theorem bS4 {P Q A B C D : Prop} (h : P) (a : A) (b : B) (c : C) (d : D) (f : P → A → B → C → D → Q := by intro h_ a_ b_ c_ d_; repeat (first | (with_reducible first | exact h_ | apply below_alloc | apply pw_below_drewN | apply below_drew1 | refine below_set ?_ a_ | refine below_set ?_ b_ | refine below_set ?_ c_ | refine below_set ?_ d_) | exact h_)) : Q := f h a b c d
theorem cU {P Q : Prop} (h : P) (f : P → Q := by intro h_; repeat (first | exact h_ | (with_reducible refine Kd.C_alloc ?_ _) | (with_reducible refine Kd.C_drewN ?_ _) | (with_reducible refine Kd.C_drew ?_))) : Q := f h
theorem bS5 {P Q A B C D E : Prop} (h : P) (a1 : A) (b1 : B) (c1 : C) (d1 : D) (e1 : E) (f : P → A → B → C → D → E → Q := by intro h_ a1_ b1_ c1_ d1_ e1_; repeat (first | (with_reducible first | exact h_ | apply below_alloc | apply pw_below_drewN | apply below_drew1 | refine below_set ?_ a1_ | refine below_set ?_ b1_ | refine below_set ?_ c1_ | refine below_set ?_ d1_ | refine below_set ?_ e1_) | exact h_)) : Q := f h a1 b1 c1 d1 e1
theorem bS6 {P Q A B C D E F : Prop} (h : P) (a1 : A) (b1 : B) (c1 : C) (d1 : D) (e1 : E) (f1 : F) (f : P → A → B → C → D → E → F → Q := by intro h_ a1_ b1_ c1_ d1_ e1_ f1_; repeat (first | (with_reducible first | exact h_ | apply below_alloc | apply pw_below_drewN | apply below_drew1 | refine below_set ?_ a1_ | refine below_set ?_ b1_ | refine below_set ?_ c1_ | refine below_set ?_ d1_ | refine below_set ?_ e1_ | refine below_set ?_ f1_) | exact h_)) : Q := f h a1 b1 c1 d1 e1 f1
theorem bS7 {P Q A B C D E F G : Prop} (h : P) (a1 : A) (b1 : B) (c1 : C) (d1 : D) (e1 : E) (f1 : F) (g1 : G) (f : P → A → B → C → D → E → F → G → Q := by intro h_ a1_ b1_ c1_ d1_ e1_ f1_ g1_; repeat (first | (with_reducible first | exact h_ | apply below_alloc | apply pw_below_drewN | apply below_drew1 | refine below_set ?_ a1_ | refine below_set ?_ b1_ | refine below_set ?_ c1_ | refine below_set ?_ d1_ | refine below_set ?_ e1_ | refine below_set ?_ f1_ | refine below_set ?_ g1_) | exact h_)) : Q := f h a1 b1 c1 d1 e1 f1 g1
theorem bS8 {P Q A B C D E F G H : Prop} (h : P) (a1 : A) (b1 : B) (c1 : C) (d1 : D) (e1 : E) (f1 : F) (g1 : G) (h1 : H) (f : P → A → B → C → D → E → F → G → H → Q := by intro h_ a1_ b1_ c1_ d1_ e1_ f1_ g1_ h1_; repeat (first | (with_reducible first | exact h_ | apply below_alloc | apply pw_below_drewN | apply below_drew1 | refine below_set ?_ a1_ | refine below_set ?_ b1_ | refine below_set ?_ c1_ | refine below_set ?_ d1_ | refine below_set ?_ e1_ | refine below_set ?_ f1_ | refine below_set ?_ g1_ | refine below_set ?_ h1_) | exact h_)) : Q := f h a1 b1 c1 d1 e1 f1 g1 h1
theorem bS9 {P Q A B C D E F G H I : Prop} (h : P) (a1 : A) (b1 : B) (c1 : C) (d1 : D) (e1 : E) (f1 : F) (g1 : G) (h1 : H) (i1 : I) (f : P → A → B → C → D → E → F → G → H → I → Q := by intro h_ a1_ b1_ c1_ d1_ e1_ f1_ g1_ h1_ i1_; repeat (first | (with_reducible first | exact h_ | apply below_alloc | apply pw_below_drewN | apply below_drew1 | refine below_set ?_ a1_ | refine below_set ?_ b1_ | refine below_set ?_ c1_ | refine below_set ?_ d1_ | refine below_set ?_ e1_ | refine below_set ?_ f1_ | refine below_set ?_ g1_ | refine below_set ?_ h1_ | refine below_set ?_ i1_) | exact h_)) : Q := f h a1 b1 c1 d1 e1 f1 g1 h1 i1
theorem kB {w w1 w2 : World} {g : Nat} {o : Obj} (h : w.heap[g]? = some o) (hb : Below w1.heap.size w1 w2) (f : w.heap[g]? = some o → w1.heap[g]? = some o := by intro h_; (with_reducible repeat (first | refine blk_drewN ?_ _ | refine blk_drew ?_ | refine blk_alloc ?_ _)); exact h_) : w2.heap[g]? = some o := blk_below (f h) hb
theorem kN {w w1 : World} {g g' : Nat} {o : Obj} (h : w.heap[g]? = some o) (hg : g' = w1.heap.size) (f : w.heap[g]? = some o → w1.heap[g]? = some o := by intro h_; (with_reducible repeat (first | refine blk_drewN ?_ _ | refine blk_drew ?_ | refine blk_alloc ?_ _)); exact h_) : g ≠ g' := by rw [hg]; exact Nat.ne_of_lt (blk_lt (f h))
theorem kM {w w1 : World} {g g' : Nat} {o : Obj} (h : w.heap[g]? = some o) (hg : g' = w1.heap.size) (f : w.heap[g]? = some o → w1.heap[g]? = some o := by intro h_; (with_reducible repeat (first | refine blk_drewN ?_ _ | refine blk_drew ?_ | refine blk_alloc ?_ _)); exact h_) : g' ≠ g := by rw [hg]; exact Nat.ne_of_gt (blk_lt (f h))
theorem lU {P : Prop} (h : P := by (try simp only [List.map_toArray, List.map_cons, List.map_nil]); first | done | rfl | (simp only [List.length_drop, List.length_take]; rfl)) : P := h
theorem hU {P Q : Prop} (h : P) (f : P → Q := by intro h_; repeat (first | (with_reducible first | exact h_ | apply KeepBut.set_ | apply keep_drewN | apply keep_drew | apply keep_alloc) | exact h_)) : Q := f h
theorem rU {P : Prop} (h : P := by first | rfl | (simp; done) | (simp [*]; done)) : P := h
theorem dU {P : Prop} (h : P := by repeat (first | exact Drawn0.refl _ | apply Drawn0.step)) : P := h
theorem qU {P : Prop} (h : P := by first | exact ⟨rfl, _, World.drewN_drewN _ _ _⟩ | exact ⟨rfl, _, Eq.trans (World.drewN_drewN _ _ _) (congrArg (World.drewN _) (Nat.add_assoc _ _ _))⟩) : P := h
section
variable {α : Type} {d : Kd α} {e base : Nat} {ok : Nat → Prop} {W : World} {v : Value} {xs : List α} {g : Nat} {cs : Array Value} {t : TypeId} {u1 u2 : Value}
theorem far2 (h : d.R e W base ok v xs) (hb : W.heap[g]? = some (.cells cs t (0, 0))) (ht : ∀ q, q ∈ e :: d.E → q ≠ t := by decide) : d.R e ((W.setCell ⟨g, 0, none⟩ u1).setCell ⟨g, 1, none⟩ u2) base ok v xs :=
  Kd.R_mono (Kd.R_far (p := ⟨g, 1, none⟩) (Kd.R_far (p := ⟨g, 0, none⟩) (Kd.R_types h hb ht) (fun _ hk => hk.2) u1) (fun _ hk => hk.2) u2) (fun _ h_ => h_.1)
theorem far1 {i : Nat} (h : d.R e W base ok v xs) (hb : W.heap[g]? = some (.cells cs t (0, 0))) (ht : ∀ q, q ∈ e :: d.E → q ≠ t := by decide) : d.R e (W.setCell ⟨g, i, none⟩ u1) base ok v xs :=
  Kd.R_mono (Kd.R_far (p := ⟨g, i, none⟩) (Kd.R_types h hb ht) (fun _ hk => hk.2) u1) (fun _ h_ => h_.1)
end
end Go.Proofs.YtnpcjppcoejgmaaQ
