/- The law FnExactNeutral answers true for each whole number of 64 bits: the program's Neutral is the reference's. No condition but the number's kind. -/
import Derived.Test.YtndmfjgdibklkaaPFnExactNeutralx
namespace Go.Proofs.Ytndmfjgdibklkaa.Pure
open Go.RowKit Go.Proofs.Ytndmfjgdibklkaa.PFnExactNeutral Go.Proofs.YtndmfjgdibklkaaW.PrintWords Go.Proofs.YtndmfjgdibklkaaW.PrintLast Go.Proofs.YtndmfjgdibklkaaW.PrintMore
set_option linter.unusedVariables false
set_option linter.unusedSimpArgs false

section
variable {α β : Type}
theorem evPos {c : Prop} [Decidable c] {g h : Nat → Option α} {r : α} (hc : c) (e : Ev g r) : Ev (fun k => if c then g k else h k) r := by
  simpa only [if_pos hc] using e
theorem evNeg {c : Prop} [Decidable c] {g h : Nat → Option α} {r : α} (hc : ¬ c) (e : Ev h r) : Ev (fun k => if c then g k else h k) r := by
  simpa only [if_neg hc] using e
theorem evBind0 {o : Option α} {f : Nat → α → Option β} {a : α} {r : β} (h : o = some a) (k : Ev (fun n => f n a) r) : Ev (fun n => o.bind (f n)) r := by
  subst h; simpa only [Option.bind_some] using k
theorem evLet {a : α} {f : Nat → α → Option β} {r : β} (k : Ev (fun n => f n a) r) : Ev (fun n => (some a).bind (f n)) r := by
  simpa only [Option.bind_some] using k
theorem evEq {g : Nat → Option α} {r r' : α} (h : Ev g r) (e : r = r') : Ev g r' := e ▸ h
theorem evSomeEq {o : Option α} {r : α} (e : o = some r) : Ev (fun _ => o) r := e ▸ Ev.now r
theorem evSome {a r : α} (e : a = r) : Ev (fun _ => some a) r := e ▸ Ev.now a
end
theorem w64 {x : Int} (h : -9223372036854775808 ≤ x) (h' : x ≤ 9223372036854775807) : wrap64 x = x := by unfold wrap64; omega
theorem w64s (i : Nat) (h : i < 4611686018427387904) : wrap64 ((i : Int) + 1) = ((i + 1 : Nat) : Int) := by rw [w64] <;> omega
theorem rdn (l : List Int) (i : Nat) (h : i < l.length) : rd l (i : Int) = l[i] := by
  simp only [rd, Int.toNat_natCast, List.getD_eq_getElem?_getD, List.getElem?_eq_getElem h, Option.getD_some]
theorem wfI {x : Int} (h : (Lit.int .i64 x).wf = true) : -9223372036854775808 ≤ x ∧ x ≤ 9223372036854775807 := by
  have h2 : (decide (IntKind.i64.min ≤ x) && decide (x ≤ IntKind.i64.max)) = true := h
  rw [Bool.and_eq_true, decide_eq_true_iff, decide_eq_true_iff] at h2
  have e1 : IntKind.i64.min = -9223372036854775808 := by decide
  have e2 : IntKind.i64.max = 9223372036854775807 := by decide
  rw [e1, e2] at h2
  exact h2

def neutral (s : Int) : Int × Bool :=
  if s = 43 ∨ s = 45 ∨ s = 124 ∨ s = 60 ∨ s = 62 then (0, true) else if s = 42 ∨ s = 37 ∨ s = 61 then (1, true)
  else if s = 38 then (1000000000000, true) else if s = 94 then (-1000000000000, true) else (0, false)
theorem impl_Neutral_ev (s : Int) : Ev (fun k => impl_Neutral.f k s) (neutral s) := by
  refine ⟨2, fun k hk => ?_⟩
  obtain ⟨k, rfl⟩ : ∃ m, k = m + 2 := ⟨k - 2, by omega⟩
  have h : s = 43 ∨ s = 45 ∨ s = 124 ∨ s = 60 ∨ s = 62 ∨ s = 42 ∨ s = 37 ∨ s = 61 ∨ s = 38 ∨ s = 94 ∨ (s ≠ 43 ∧ s ≠ 45 ∧ s ≠ 124 ∧ s ≠ 60 ∧ s ≠ 62 ∧ s ≠ 42 ∧ s ≠ 37 ∧ s ≠ 61 ∧ s ≠ 38 ∧ s ≠ 94) := by omega
  rcases h with rfl | rfl | rfl | rfl | rfl | rfl | rfl | rfl | rfl | rfl | ⟨h1, h2, h3, h4, h5, h6, h7, h8, h9, h10⟩
  all_goals simp [neutral, impl_Neutral.f, impl_Neutral.j0, impl_Neutral.j1, *]
theorem spec_Neutral_ev (s : Int) : Ev (fun k => spec_Neutral.f k s) (neutral s) := by
  refine ⟨2, fun k hk => ?_⟩
  obtain ⟨k, rfl⟩ : ∃ m, k = m + 2 := ⟨k - 2, by omega⟩
  have h : s = 43 ∨ s = 45 ∨ s = 124 ∨ s = 60 ∨ s = 62 ∨ s = 42 ∨ s = 37 ∨ s = 61 ∨ s = 38 ∨ s = 94 ∨ (s ≠ 43 ∧ s ≠ 45 ∧ s ≠ 124 ∧ s ≠ 60 ∧ s ≠ 62 ∧ s ≠ 42 ∧ s ≠ 37 ∧ s ≠ 61 ∧ s ≠ 38 ∧ s ≠ 94) := by omega
  rcases h with rfl | rfl | rfl | rfl | rfl | rfl | rfl | rfl | rfl | rfl | ⟨h1, h2, h3, h4, h5, h6, h7, h8, h9, h10⟩
  all_goals simp [neutral, spec_Neutral.f, spec_Neutral.j0, spec_Neutral.j1, *]

theorem FnExactNeutral : laws_FnExactNeutral.Pure := by
  intro a _
  refine Ev.rounds (g := fun k => laws_FnExactNeutral.f k a) ?_
  unfold laws_FnExactNeutral.f
  refine Ev.bind (spec_Neutral_ev a) (Ev.bind (impl_Neutral_ev a) (evPos rfl (evNeg (by simp) (Ev.now _))))

end Go.Proofs.Ytndmfjgdibklkaa.Pure
