/- The law FnExactScalarOf answers true for each number of 64 bits: the program's ScalarOf is the reference's, and what it hands back is its own memory. No condition but the number's kind. -/
import Derived.Test.YtfcjbdkipcpjcaaPFnExactScalarOfx
namespace Go.Proofs.Ytfcjbdkipcpjcaa.Pure
open Go.RowKit Go.Proofs.Ytfcjbdkipcpjcaa.PFnExactScalarOf Go.Proofs.YtfcjbdkipcpjcaaW.PrintWords Go.Proofs.YtfcjbdkipcpjcaaW.PrintLast Go.Proofs.YtfcjbdkipcpjcaaW.PrintMore
set_option linter.unusedVariables false
set_option linter.unusedSimpArgs false

section
variable {α β : Type}
theorem evPos {c : Prop} [Decidable c] {g h : Nat → Option α} {r : α} (hc : c) (e : Ev g r) : Ev (fun k => if c then g k else h k) r := by
  simpa only [if_pos hc] using e
theorem evNeg {c : Prop} [Decidable c] {g h : Nat → Option α} {r : α} (hc : ¬ c) (e : Ev h r) : Ev (fun k => if c then g k else h k) r := by
  simpa only [if_neg hc] using e
theorem evBind0 {o : Option α} {f : Nat → α → Option β} {a : α} {r : β} (h : o = some a) (k : Ev (fun n => f n a) r) : Ev (fun n => o.bind (f n)) r := by
  subst h; simpa only [Option.bind_some] using k
theorem evLet {a : α} {f : Nat → α → Option β} {r : β} (k : Ev (fun n => f n a) r) : Ev (fun n => (some a).bind (f n)) r := by
  simpa only [Option.bind_some] using k
theorem evEq {g : Nat → Option α} {r r' : α} (h : Ev g r) (e : r = r') : Ev g r' := e ▸ h
theorem evSomeEq {o : Option α} {r : α} (e : o = some r) : Ev (fun _ => o) r := e ▸ Ev.now r
theorem evSome {a r : α} (e : a = r) : Ev (fun _ => some a) r := e ▸ Ev.now a
end
theorem w64 {x : Int} (h : -9223372036854775808 ≤ x) (h' : x ≤ 9223372036854775807) : wrap64 x = x := by unfold wrap64; omega
theorem w64s (i : Nat) (h : i < 4611686018427387904) : wrap64 ((i : Int) + 1) = ((i + 1 : Nat) : Int) := by rw [w64] <;> omega
theorem rdn (l : List Int) (i : Nat) (h : i < l.length) : rd l (i : Int) = l[i] := by
  simp only [rd, Int.toNat_natCast, List.getD_eq_getElem?_getD, List.getElem?_eq_getElem h, Option.getD_some]
theorem wfI {x : Int} (h : (Lit.int .i64 x).wf = true) : -9223372036854775808 ≤ x ∧ x ≤ 9223372036854775807 := by
  have h2 : (decide (IntKind.i64.min ≤ x) && decide (x ≤ IntKind.i64.max)) = true := h
  rw [Bool.and_eq_true, decide_eq_true_iff, decide_eq_true_iff] at h2
  have e1 : IntKind.i64.min = -9223372036854775808 := by decide
  have e2 : IntKind.i64.max = 9223372036854775807 := by decide
  rw [e1, e2] at h2
  exact h2

/-- A right number. -/
def okN (x : Int) : Bool := decide (-1000000000000 ≤ x ∧ x ≤ 1000000000000)
theorem okN_t {x : Int} (h : okN x = true) : -1000000000000 ≤ x ∧ x ≤ 1000000000000 := of_decide_eq_true h
theorem okN_f {x : Int} (h : okN x = false) : ¬ (-1000000000000 ≤ x ∧ x ≤ 1000000000000) := of_decide_eq_false h

theorem impl_within_eq (a b c : Int) : impl_within.f a b c = some (decide (b ≤ a ∧ a ≤ c)) := by
  unfold impl_within.f
  by_cases h : a ≥ b
  · rw [if_pos h]; congr 1; rw [Bool.eq_iff_iff, decide_eq_true_iff, decide_eq_true_iff]; omega
  · rw [if_neg h]; congr 1; symm; rw [decide_eq_false_iff_not]; omega

theorem impl_NumOk_eq (a : Int) : impl_NumOk.f a = some (okN a) := by
  unfold impl_NumOk.f; rw [impl_within_eq]; rfl

theorem spec_l1In_eq (a b c : Int) : spec_l1In.f a b c = some (decide (b ≤ a ∧ a ≤ c)) := by
  unfold spec_l1In.f
  by_cases h : a ≥ b
  · rw [if_pos h]; congr 1; rw [Bool.eq_iff_iff, decide_eq_true_iff, decide_eq_true_iff]; omega
  · rw [if_neg h]; congr 1; symm; rw [decide_eq_false_iff_not]; omega

theorem spec_NumOk_eq (a : Int) : spec_NumOk.f a = some (okN a) := by
  unfold spec_NumOk.f; rw [spec_l1In_eq]; rfl

theorem laws_eqIntS_l0 (l m : List Int) (hl : l.length ≤ 35184372088832) (hm : l.length = m.length) (d : Nat) : ∀ (i : Nat), i + d = l.length → Ev (fun k => laws_eqIntS.l0 k l m (i : Int)) (decide (l.drop i = m.drop i)) := by
  induction d with
  | zero =>
    intro i hi
    refine Ev.step (f := fun _ => some (decide (l.drop i = m.drop i))) (fun k => ?_) (Ev.now _)
    simp only [laws_eqIntS.l0]
    rw [if_neg (by omega), List.drop_of_length_le (by omega), List.drop_of_length_le (by omega)]; simp
  | succ d ih =>
    intro i hi
    have hlt : i < l.length := by omega
    have hlt' : i < m.length := by omega
    have e1 := List.drop_eq_getElem_cons hlt
    have e2 := List.drop_eq_getElem_cons hlt'
    by_cases hx : l[i] = m[i]
    · refine Ev.step (f := fun k => laws_eqIntS.l0 k l m ((i + 1 : Nat) : Int)) (fun k => ?_) (evEq (ih (i + 1) (by omega)) ?_)
      · simp only [laws_eqIntS.l0]
        rw [if_pos (by omega), if_pos (by omega), if_pos (by omega), rdn l i hlt, rdn m i hlt', if_pos hx, w64s i (by omega)]
      · rw [e1, e2, hx]; simp only [List.cons.injEq, true_and]
    · refine Ev.step (f := fun _ => some false) (fun k => ?_) (evSome ?_)
      · simp only [laws_eqIntS.l0]
        rw [if_pos (by omega), if_pos (by omega), if_pos (by omega), rdn l i hlt, rdn m i hlt', if_neg hx]
      · rw [e1, e2]; symm; rw [decide_eq_false_iff_not]; intro h; exact hx (List.cons.inj h).1
theorem laws_eqIntS_ev (l m : List Int) (hl : l.length ≤ 35184372088832) : Ev (fun k => laws_eqIntS.f k l m) (decide (l = m)) := by
  unfold laws_eqIntS.f
  by_cases h : l.length = m.length
  · refine evPos (by omega) ?_
    exact laws_eqIntS_l0 l m hl h l.length 0 (by omega)
  · refine evNeg (by omega) (evSome ?_)
    symm; rw [decide_eq_false_iff_not]; intro e; exact h (by rw [e])
theorem laws_eqIntS_rfl (l : List Int) (hl : l.length ≤ 35184372088832) : Ev (fun k => laws_eqIntS.f k l l) true := evEq (laws_eqIntS_ev l l hl) (by simp)

theorem laws_eqArray_ev (a b c d : List Int) (ha : a.length ≤ 35184372088832) (hb : b.length ≤ 35184372088832) : Ev (fun k => laws_eqArray.f k a b c d) (decide (a = c ∧ b = d)) := by
  unfold laws_eqArray.f
  refine Ev.bind (laws_eqIntS_ev a c ha) ?_
  by_cases h : a = c
  · refine evPos (by simpa using h) (Ev.bind (laws_eqIntS_ev b d hb) ?_)
    by_cases h2 : b = d
    · exact evPos (by simpa using h2) (evSome (by simp [h, h2]))
    · exact evNeg (by simpa using h2) (evSome (by simp [h2]))
  · exact evNeg (by simpa using h) (evSome (by simp [h]))
theorem laws_eqArray_rfl (a b : List Int) (ha : a.length ≤ 35184372088832) (hb : b.length ≤ 35184372088832) : Ev (fun k => laws_eqArray.f k a b a b) true := evEq (laws_eqArray_ev a b a b ha hb) (by simp)

/-- The numbers that a mark leaves: from a on. -/
def asc (a : Int) : Nat → List Int
  | 0 => []
  | n + 1 => a :: asc (a + 1) n
theorem asc_length : ∀ (n : Nat) (a : Int), (asc a n).length = n
  | 0, _ => rfl
  | n + 1, a => by simp [asc, asc_length n]
theorem asc_get : ∀ (n : Nat) (a : Int) (i : Nat) (h : i < (asc a n).length), (asc a n)[i] = a + i
  | 0, _, i, h => by simp [asc] at h
  | n + 1, a, 0, _ => by simp [asc]
  | n + 1, a, i + 1, h => by
    have h2 : i < (asc (a + 1) n).length := by rw [asc_length] at h ⊢; omega
    have := asc_get n (a + 1) i h2
    simp only [asc, List.getElem_cons_succ, this]; omega
theorem asc_snoc : ∀ (n : Nat) (a : Int), asc a (n + 1) = asc a n ++ [a + n]
  | 0, a => by simp [asc]
  | n + 1, a => by
    rw [asc, asc_snoc n (a + 1)]; simp only [asc, List.cons_append]; congr 3; omega

theorem laws_markIntS_l0 (n : Nat) (a : Int) (hn : n ≤ 35184372088832) (h0 : 0 ≤ a) (h1 : a ≤ 1000000000000000) (d : Nat) : ∀ (i : Nat) (m : List Int), i + d = n → m.length = n → m.take i = asc a i → Ev (fun k => laws_markIntS.l0 k m (a + i) (i : Int)) (a + n, asc a n) := by
  induction d with
  | zero =>
    intro i m hi hm ht
    have hin : i = n := by omega
    have e : m = asc a n := by rw [List.take_of_length_le (by omega)] at ht; rw [ht, hin]
    refine Ev.step (f := fun _ => some (a + (n : Int), asc a n)) (fun k => ?_) (Ev.now _)
    simp only [laws_markIntS.l0]; rw [if_neg (by omega), e, hin]
  | succ d ih =>
    intro i m hi hm ht
    refine Ev.step (f := fun k => laws_markIntS.l0 k (m.set i (a + i)) (a + ((i + 1 : Nat) : Int)) ((i + 1 : Nat) : Int)) (fun k => ?_) (ih (i + 1) (m.set i (a + i)) (by omega) (by rw [List.length_set, hm]) ?_)
    · simp only [laws_markIntS.l0]
      have e : wrap64 (a + (i : Int) + 1) = a + ((i + 1 : Nat) : Int) := by rw [w64] <;> omega
      rw [if_pos (by omega), if_pos (by omega), w64s i (by omega), Int.toNat_natCast, e]
    · rw [List.take_succ_eq_append_getElem (l := m.set i (a + i)) (i := i) (by rw [List.length_set]; omega), List.getElem_set_self, List.take_set_of_le (Nat.le_refl i), ht, asc_snoc]
theorem laws_markIntS_ev (l : List Int) (a : Int) (hl : l.length ≤ 35184372088832) (h0 : 0 ≤ a) (h1 : a ≤ 1000000000000000) : Ev (fun k => laws_markIntS.f k l a) (a + l.length, asc a l.length) := by
  unfold laws_markIntS.f
  have := laws_markIntS_l0 l.length a hl h0 h1 l.length 0 l (by omega) rfl (by simp [asc])
  simpa using this

theorem laws_markArray_ev (a b : List Int) (n : Int) (ha : a.length ≤ 35184372088832) (hb : b.length ≤ 35184372088832) (h0 : 0 ≤ n) (h1 : n ≤ 500000000000000) : Ev (fun k => laws_markArray.f k a b n) (n + a.length + b.length, asc n a.length, asc (n + a.length) b.length) := by
  unfold laws_markArray.f
  refine Ev.bind (laws_markIntS_ev a n ha h0 (by omega)) (Ev.bind (laws_markIntS_ev b _ hb (by omega) (by omega)) (Ev.now _))

theorem laws_heldIntS_l0 (n : Nat) (a : Int) (hn : n ≤ 35184372088832) (h0 : 0 ≤ a) (h1 : a ≤ 1000000000000000) (d : Nat) : ∀ (i : Nat), i + d = n → Ev (fun k => laws_heldIntS.l0 k (asc a n) (a + i) (i : Int)) (a + n) := by
  induction d with
  | zero =>
    intro i hi
    have hin : i = n := by omega
    refine Ev.step (f := fun _ => some (a + (n : Int))) (fun k => ?_) (Ev.now _)
    simp only [laws_heldIntS.l0]; rw [if_neg (by rw [asc_length]; omega), hin]
  | succ d ih =>
    intro i hi
    refine Ev.step (f := fun k => laws_heldIntS.l0 k (asc a n) (a + ((i + 1 : Nat) : Int)) ((i + 1 : Nat) : Int)) (fun k => ?_) (ih (i + 1) (by omega))
    simp only [laws_heldIntS.l0]
    have e : wrap64 (a + (i : Int) + 1) = a + ((i + 1 : Nat) : Int) := by rw [w64] <;> omega
    have hlt : i < (asc a n).length := by rw [asc_length]; omega
    rw [if_pos (by rw [asc_length]; omega), if_pos (by omega), rdn _ i hlt, asc_get n a i hlt, if_pos rfl, w64s i (by omega), e]
theorem laws_heldIntS_ev (n : Nat) (a : Int) (hl : n ≤ 35184372088832) (h0 : 0 ≤ a) (h1 : a ≤ 1000000000000000) : Ev (fun k => laws_heldIntS.f k (asc a n) a) (a + n) := by
  unfold laws_heldIntS.f
  have := laws_heldIntS_l0 n a hl h0 h1 n 0 (by omega)
  simpa using this

theorem laws_heldArray_ev (a b : Nat) (n : Int) (ha : a ≤ 35184372088832) (hb : b ≤ 35184372088832) (h0 : 0 ≤ n) (h1 : n ≤ 500000000000000) : Ev (fun k => laws_heldArray.f k (asc n a) (asc (n + a) b) n) (n + a + b) := by
  unfold laws_heldArray.f
  refine Ev.bind (laws_heldIntS_ev a n ha h0 (by omega)) (evNeg (by omega) (Ev.bind (laws_heldIntS_ev b _ hb (by omega) (by omega)) (evNeg (by omega) (Ev.now _))))

def scalarOf (x : Int) : List Int × List Int × Bool := if okN x = true then ([], [x], true) else ([], [], false)
theorem impl_ScalarOf_eq (x : Int) : impl_ScalarOf.f x = some (scalarOf x) := by
  unfold impl_ScalarOf.f scalarOf; rw [impl_NumOk_eq, Option.bind_some]; split <;> rfl
theorem spec_ScalarOf_eq (x : Int) : spec_ScalarOf.f x = some (scalarOf x) := by
  unfold spec_ScalarOf.f scalarOf; rw [spec_NumOk_eq, Option.bind_some]; split <;> rfl
theorem FnExactScalarOf : laws_FnExactScalarOf.Pure := by
  intro x _
  refine Ev.rounds (g := fun k => laws_FnExactScalarOf.f k x) ?_
  unfold laws_FnExactScalarOf.f
  have ha : (scalarOf x).1.length ≤ 35184372088832 := by unfold scalarOf; split <;> simp
  have hb : (scalarOf x).2.1.length ≤ 35184372088832 := by unfold scalarOf; split <;> simp
  refine evBind0 (spec_ScalarOf_eq x) (evBind0 (impl_ScalarOf_eq x) (Ev.bind (laws_eqArray_rfl _ _ ha hb) (evPos rfl ?_)))
  refine Ev.step (fun k => by simp only [laws_FnExactScalarOf.j0]; rfl) ?_
  refine evNeg (by simp) (Ev.bind (laws_markArray_ev _ _ 1 ha hb (by omega) (by omega)) (Ev.bind (laws_heldArray_ev _ _ 1 ha hb (by omega) (by omega)) (evNeg (by omega) (evPos rfl (evBind0 (impl_ScalarOf_eq x) (Ev.bind (laws_eqArray_rfl _ _ ha hb) (evPos rfl ?_)))))))
  refine Ev.step (fun k => by simp only [laws_FnExactScalarOf.j1]; rfl) ?_
  exact evNeg (by simp) (Ev.bind (laws_heldArray_ev _ _ 1 ha hb (by omega) (by omega)) (evNeg (by omega) (evPos rfl (Ev.now _))))

end Go.Proofs.Ytfcjbdkipcpjcaa.Pure
