/- The law FnVectors answers true for each code: drawn numbers are the vector of them, and a drawn number the scalar of it. Conditions: those of the row's own reading alone. -/
import Derived.Test.YtlaikodjcjfeiaaPFnVectorsx
namespace Go.Proofs.Ytlaikodjcjfeiaa.Pure
open Go.RowKit Go.Proofs.Ytlaikodjcjfeiaa.PFnVectors Go.Proofs.YtlaikodjcjfeiaaW.PrintWords Go.Proofs.YtlaikodjcjfeiaaW.PrintLast Go.Proofs.YtlaikodjcjfeiaaW.PrintMore
set_option linter.unusedVariables false
set_option linter.unusedSimpArgs false

section
variable {α β : Type}
theorem evPos {c : Prop} [Decidable c] {g h : Nat → Option α} {r : α} (hc : c) (e : Ev g r) : Ev (fun k => if c then g k else h k) r := by
  simpa only [if_pos hc] using e
theorem evNeg {c : Prop} [Decidable c] {g h : Nat → Option α} {r : α} (hc : ¬ c) (e : Ev h r) : Ev (fun k => if c then g k else h k) r := by
  simpa only [if_neg hc] using e
theorem evBind0 {o : Option α} {f : Nat → α → Option β} {a : α} {r : β} (h : o = some a) (k : Ev (fun n => f n a) r) : Ev (fun n => o.bind (f n)) r := by
  subst h; simpa only [Option.bind_some] using k
theorem evLet {a : α} {f : Nat → α → Option β} {r : β} (k : Ev (fun n => f n a) r) : Ev (fun n => (some a).bind (f n)) r := by
  simpa only [Option.bind_some] using k
theorem evEq {g : Nat → Option α} {r r' : α} (h : Ev g r) (e : r = r') : Ev g r' := e ▸ h
theorem evSomeEq {o : Option α} {r : α} (e : o = some r) : Ev (fun _ => o) r := e ▸ Ev.now r
theorem evSome {a r : α} (e : a = r) : Ev (fun _ => some a) r := e ▸ Ev.now a
end
theorem w64 {x : Int} (h : -9223372036854775808 ≤ x) (h' : x ≤ 9223372036854775807) : wrap64 x = x := by unfold wrap64; omega
theorem w64s (i : Nat) (h : i < 4611686018427387904) : wrap64 ((i : Int) + 1) = ((i + 1 : Nat) : Int) := by rw [w64] <;> omega
theorem rdn (l : List Int) (i : Nat) (h : i < l.length) : rd l (i : Int) = l[i] := by
  simp only [rd, Int.toNat_natCast, List.getD_eq_getElem?_getD, List.getElem?_eq_getElem h, Option.getD_some]
theorem wfI {x : Int} (h : (Lit.int .i64 x).wf = true) : -9223372036854775808 ≤ x ∧ x ≤ 9223372036854775807 := by
  have h2 : (decide (IntKind.i64.min ≤ x) && decide (x ≤ IntKind.i64.max)) = true := h
  rw [Bool.and_eq_true, decide_eq_true_iff, decide_eq_true_iff] at h2
  have e1 : IntKind.i64.min = -9223372036854775808 := by decide
  have e2 : IntKind.i64.max = 9223372036854775807 := by decide
  rw [e1, e2] at h2
  exact h2

/-- The product of a list. -/
def prod : List Int → Int
  | [] => 1
  | x :: l => x * prod l
/-- May these stand in a shape? -/
def inR (l : List Int) : Bool := l.all fun n => decide (0 ≤ n ∧ n ≤ 300)
/-- How many numbers an array of a shape has; -1 where the shape isn't right. -/
def szOf (l : List Int) : Int := if 3 < l.length then -1 else if inR l = true then (if prod l > 300 then -1 else prod l) else -1
theorem mul300 {a b : Int} {m n : Int} (h0 : 0 ≤ a) (h1 : a ≤ m) (h2 : 0 ≤ b) (h3 : b ≤ n) : 0 ≤ a * b ∧ a * b ≤ m * n :=
  ⟨Int.mul_nonneg h0 h2, Int.mul_le_mul h1 h3 h2 (Int.le_trans h0 h1)⟩
theorem shape_cases {l : List Int} (h : ¬ 3 < l.length) : l = [] ∨ (∃ a, l = [a]) ∨ (∃ a b, l = [a, b]) ∨ ∃ a b c, l = [a, b, c] := by
  match l, h with
  | [], _ => exact .inl rfl
  | [a], _ => exact .inr (.inl ⟨a, rfl⟩)
  | [a, b], _ => exact .inr (.inr (.inl ⟨a, b, rfl⟩))
  | [a, b, c], _ => exact .inr (.inr (.inr ⟨a, b, c, rfl⟩))
  | _ :: _ :: _ :: _ :: _, h => exact absurd (by simp) h
theorem inR_cons {a : Int} {l : List Int} : inR (a :: l) = true ↔ (0 ≤ a ∧ a ≤ 300) ∧ inR l = true := by
  simp [inR]
/-- A part of a shape's product stays small. -/
def pw : Nat → Int
  | 0 => 1
  | n + 1 => 300 * pw n
theorem prod_le : ∀ (l : List Int), inR l = true → 0 ≤ prod l ∧ prod l ≤ pw l.length
  | [], _ => by simp [prod, pw]
  | a :: l, h => by
    obtain ⟨⟨h0, h1⟩, h2⟩ := inR_cons.1 h
    obtain ⟨h3, h4⟩ := prod_le l h2
    exact mul300 h0 h1 h3 h4
theorem prod_append : ∀ (a b : List Int), prod (a ++ b) = prod a * prod b
  | [], b => by simp [prod]
  | x :: a, b => by simp [prod, prod_append a b, Int.mul_assoc]
theorem pw_le {n : Nat} (h : n ≤ 3) : pw n ≤ 27000000 := by
  match n, h with
  | 0, _ => decide
  | 1, _ => decide
  | 2, _ => decide
  | 3, _ => decide
theorem inR_take {l : List Int} (i : Nat) (h : inR l = true) : inR (l.take i) = true := by
  simp only [inR, List.all_eq_true] at h ⊢
  exact fun x hx => h x (List.mem_of_mem_take hx)
theorem prod_take_succ (l : List Int) (i : Nat) (h : i < l.length) : prod (l.take (i + 1)) = prod (l.take i) * l[i] := by
  rw [List.take_succ_eq_append_getElem h, prod_append]; simp [prod]
/-- The product so far is small. -/
theorem prod_take_le (l : List Int) (i : Nat) (hl : ¬ 3 < l.length) (h : inR (l.take i) = true) : 0 ≤ prod (l.take i) ∧ prod (l.take i) ≤ 27000000 := by
  obtain ⟨h0, h1⟩ := prod_le _ h
  have h2 : (l.take i).length ≤ 3 := by rw [List.length_take]; omega
  exact ⟨h0, Int.le_trans h1 (pw_le h2)⟩
theorem inR_take_succ (l : List Int) (i : Nat) (h : i < l.length) : inR (l.take (i + 1)) = true ↔ inR (l.take i) = true ∧ (0 ≤ l[i] ∧ l[i] ≤ 300) := by
  unfold inR
  rw [List.take_succ_eq_append_getElem h, List.all_append, Bool.and_eq_true]; simp
theorem inR_not {l : List Int} (i : Nat) (h : i < l.length) (hx : ¬ (0 ≤ l[i] ∧ l[i] ≤ 300)) : inR l = false := by
  rw [← Bool.not_eq_true]
  intro hh
  simp only [inR, List.all_eq_true] at hh
  exact hx (of_decide_eq_true (hh _ (List.getElem_mem h)))
theorem szOf_ge (l : List Int) : -1 ≤ szOf l ∧ szOf l ≤ 300 := by
  unfold szOf
  by_cases h1 : 3 < l.length
  · rw [if_pos h1]; omega
  · rw [if_neg h1]
    by_cases h2 : inR l = true
    · rw [if_pos h2]
      have := (prod_le l h2).1
      by_cases h3 : prod l > 300
      · rw [if_pos h3]; omega
      · rw [if_neg h3]; omega
    · rw [if_neg h2]; omega

/-- A right number. -/
def okN (x : Int) : Bool := decide (-1000000000000 ≤ x ∧ x ≤ 1000000000000)
theorem okN_t {x : Int} (h : okN x = true) : -1000000000000 ≤ x ∧ x ≤ 1000000000000 := of_decide_eq_true h
theorem okN_f {x : Int} (h : okN x = false) : ¬ (-1000000000000 ≤ x ∧ x ≤ 1000000000000) := of_decide_eq_false h

/-- The place of an index, from a number on; -1 where the index isn't right. -/
def placeGo : Int → List Int → List Int → Int
  | a, n :: s, i :: x => if 0 ≤ i ∧ i ≤ n - 1 then placeGo (a * n + i) s x else -1
  | a, _, _ => a
def placeOf (s x : List Int) : Int := if szOf s ≥ 0 ∧ x.length = s.length then placeGo 0 s x else -1
theorem szOf_nonneg {l : List Int} (h : szOf l ≥ 0) : ¬ 3 < l.length ∧ inR l = true ∧ prod l ≤ 300 ∧ szOf l = prod l := by
  unfold szOf at h ⊢
  by_cases h1 : 3 < l.length
  · rw [if_pos h1] at h; omega
  · rw [if_neg h1] at h ⊢
    by_cases h2 : inR l = true
    · rw [if_pos h2] at h ⊢
      by_cases h3 : prod l > 300
      · rw [if_pos h3] at h; omega
      · rw [if_neg h3] at h ⊢; exact ⟨h1, h2, by omega, rfl⟩
    · rw [if_neg h2] at h; omega
def pb : Nat → Int
  | 0 => 0
  | n + 1 => 300 * pb n + 300
theorem pb_le {n : Nat} (h : n ≤ 3) : pb n ≤ 28000000 := by
  match n, h with
  | 0, _ => decide
  | 1, _ => decide
  | 2, _ => decide
  | 3, _ => decide

def arrayOk (s d : List Int) : Bool := decide ((d.length : Int) = szOf s) && d.all okN
theorem arrayOk_t {s d : List Int} (h : arrayOk s d = true) : (d.length : Int) = szOf s ∧ (∀ x ∈ d, okN x = true) ∧ d.length ≤ 300 ∧ s.length ≤ 3 ∧ szOf s ≥ 0 := by
  unfold arrayOk at h
  rw [Bool.and_eq_true, decide_eq_true_iff, List.all_eq_true] at h
  have h1 := szOf_ge s
  have h2 : szOf s ≥ 0 := by omega
  exact ⟨h.1, h.2, by omega, by have := (szOf_nonneg h2).1; omega, h2⟩

def vec (l : List Int) : List Int × List Int := ([(l.length : Int)], l)

theorem impl_vector_eq (l : List Int) (hl : l.length ≤ 1048576) : impl_vector.f l = some (vec l) := by
  unfold impl_vector.f
  rw [if_pos (by rw [List.length_nil]; omega)]; rfl

theorem impl_within_eq (a b c : Int) : impl_within.f a b c = some (decide (b ≤ a ∧ a ≤ c)) := by
  unfold impl_within.f
  by_cases h : a ≥ b
  · rw [if_pos h]; congr 1; rw [Bool.eq_iff_iff, decide_eq_true_iff, decide_eq_true_iff]; omega
  · rw [if_neg h]; congr 1; symm; rw [decide_eq_false_iff_not]; omega

theorem impl_SizeOf_l0 (l : List Int) (hl : ¬ 3 < l.length) (d : Nat) : ∀ (i : Nat), i + d = l.length → inR (l.take i) = true → Ev (fun k => impl_SizeOf.l0 k (prod (l.take i)) l (l.length : Int) (i : Int)) (if inR l = true then (if prod l > 300 then -1 else prod l) else -1) := by
  induction d with
  | zero =>
    intro i hi hr
    have e : l.take i = l := List.take_of_length_le (by omega)
    rw [e] at hr ⊢
    rw [if_pos hr]
    refine Ev.step (f := fun _ => some (if prod l > 300 then -1 else prod l)) (fun k => ?_) (Ev.now _)
    simp only [impl_SizeOf.l0]; rw [if_neg (by omega)]
    by_cases h : prod l > 300
    · rw [if_pos h, if_pos h]
    · rw [if_neg h, if_neg h]
  | succ d ih =>
    intro i hi hr
    have hlt : i < l.length := by omega
    by_cases hx : 0 ≤ l[i] ∧ l[i] ≤ 300
    · have hr' := (inR_take_succ l i hlt).2 ⟨hr, hx⟩
      refine Ev.step (f := fun k => impl_SizeOf.l0 k (prod (l.take (i + 1))) l (l.length : Int) ((i + 1 : Nat) : Int)) (fun k => ?_) (ih (i + 1) (by omega) hr')
      simp only [impl_SizeOf.l0]
      rw [if_pos (by omega), if_pos (by omega), if_pos (by omega), impl_within_eq, rdn l i hlt, decide_eq_true hx]
      simp only [Option.bind_some, if_true]
      have hp := prod_take_le l (i + 1) hl hr'
      rw [w64s i (by omega), ← prod_take_succ l i hlt, w64 (by omega) (by omega)]
    · rw [if_neg (by rw [inR_not i hlt hx]; simp)]
      refine Ev.step (f := fun _ => some (-1)) (fun k => ?_) (Ev.now _)
      simp only [impl_SizeOf.l0]
      rw [if_pos (by omega), if_pos (by omega), if_pos (by omega), impl_within_eq, rdn l i hlt, decide_eq_false hx]
      rfl
theorem impl_SizeOf_ev (l : List Int) : Ev (fun k => impl_SizeOf.f k l) (szOf l) := by
  unfold impl_SizeOf.f szOf
  by_cases h : 3 < l.length
  · rw [if_pos h]; exact evPos (by omega) (Ev.now _)
  · rw [if_neg h]
    refine evNeg (by omega) ?_
    have := impl_SizeOf_l0 l h l.length 0 (by omega) (by simp [inR])
    simpa only [List.take_zero, prod, Int.ofNat_zero, Int.natCast_zero] using this

theorem impl_NumOk_eq (a : Int) : impl_NumOk.f a = some (okN a) := by
  unfold impl_NumOk.f; rw [impl_within_eq]; rfl

def p_ArrayOk1 (x : Int) : Bool := !okN x
theorem lit_ArrayOk1_eq (x : Int) : impl_ArrayOk_lit1.f x = some (p_ArrayOk1 x) := by
  unfold impl_ArrayOk_lit1.f; rw [impl_NumOk_eq]; rfl

theorem slices_IndexFunc_ArrayOk1_l0 (l : List Int) (hl : l.length ≤ 1048576) (d : Nat) : ∀ (i : Nat), i + d = l.length → (l.take i).all (fun x => !p_ArrayOk1 x) = true → ∃ r, Ev (fun k => slices_IndexFunc_ArrayOk1.l0 k l (l.length : Int) (i : Int)) r ∧ decide (r ≥ 0) = l.any p_ArrayOk1 := by
  induction d with
  | zero =>
    intro i hi ht
    refine ⟨-1, Ev.step (f := fun _ => some (-1)) (fun k => ?_) (Ev.now _), ?_⟩
    · simp only [slices_IndexFunc_ArrayOk1.l0]; rw [if_neg (by omega)]
    · have e : l.take i = l := List.take_of_length_le (by omega)
      rw [e] at ht
      symm; rw [show decide ((-1 : Int) ≥ 0) = false by decide, List.any_eq_false]
      intro x hx
      have := List.all_eq_true.1 ht x hx
      simpa using this
  | succ d ih =>
    intro i hi ht
    have hlt : i < l.length := by omega
    by_cases hx : p_ArrayOk1 l[i] = true
    · refine ⟨(i : Int), Ev.step (f := fun _ => some (i : Int)) (fun k => ?_) (Ev.now _), ?_⟩
      · simp only [slices_IndexFunc_ArrayOk1.l0]
        rw [if_pos (by omega), if_pos (by omega), if_pos (by omega), lit_ArrayOk1_eq, rdn l i hlt]; simp only [Option.bind_some]; rw [if_pos hx]
      · rw [decide_eq_true (by omega)]; symm; rw [List.any_eq_true]; exact ⟨_, List.getElem_mem hlt, hx⟩
    · obtain ⟨r, hr, h2⟩ := ih (i + 1) (by omega) (by rw [List.take_succ_eq_append_getElem hlt, List.all_append, ht]; simp [hx])
      refine ⟨r, Ev.step (f := fun k => slices_IndexFunc_ArrayOk1.l0 k l (l.length : Int) ((i + 1 : Nat) : Int)) (fun k => ?_) hr, h2⟩
      simp only [slices_IndexFunc_ArrayOk1.l0]
      rw [if_pos (by omega), if_pos (by omega), if_pos (by omega), lit_ArrayOk1_eq, rdn l i hlt]; simp only [Option.bind_some]; rw [if_neg hx, w64s i (by omega)]
theorem slices_ContainsFunc_ArrayOk1_ev (l : List Int) (hl : l.length ≤ 1048576) : Ev (fun k => slices_ContainsFunc_ArrayOk1.f k l) (l.any p_ArrayOk1) := by
  unfold slices_ContainsFunc_ArrayOk1.f slices_IndexFunc_ArrayOk1.f
  obtain ⟨r, hr, h⟩ := slices_IndexFunc_ArrayOk1_l0 l hl l.length 0 (by omega) (by simp)
  exact Ev.bind hr (evSome h)

theorem all_okN (d : List Int) : (!d.any p_ArrayOk1) = d.all okN := by
  rw [List.not_any_eq_all_not]; congr 1; funext x; simp [p_ArrayOk1]
theorem impl_ArrayOk_ev (s d : List Int) (hd : d.length ≤ 1048576) : Ev (fun k => impl_ArrayOk.f k s d) (arrayOk s d) := by
  unfold impl_ArrayOk.f arrayOk
  refine Ev.bind (impl_SizeOf_ev s) ?_
  by_cases h : (d.length : Int) = szOf s
  · exact evPos h (Ev.bind (slices_ContainsFunc_ArrayOk1_ev d hd) (evSome (by rw [all_okN, decide_eq_true h]; rfl)))
  · exact evNeg h (evSome (by rw [decide_eq_false h]; rfl))

def ravel (s d : List Int) : List Int × List Int × Int := if arrayOk s d = true then ((vec d).1, (vec d).2, 0) else ([], [], 1)
def shapeOf (s d : List Int) : List Int × List Int × Int := if arrayOk s d = true then ((vec s).1, (vec s).2, 0) else ([], [], 1)
def vectorOf (l : List Int) : List Int × List Int × Bool := if arrayOk (vec l).1 (vec l).2 = true then ((vec l).1, (vec l).2, true) else ([], [], false)
theorem ravel_len (s d : List Int) (hd : d.length ≤ 1048576) : (ravel s d).1.length ≤ 1048576 ∧ (ravel s d).2.1.length ≤ 1048576 := by
  unfold ravel vec; split <;> simp <;> omega
theorem shapeOf_len (s d : List Int) (hs : s.length ≤ 1048576) : (shapeOf s d).1.length ≤ 1048576 ∧ (shapeOf s d).2.1.length ≤ 1048576 := by
  unfold shapeOf vec; split <;> simp <;> omega
theorem vectorOf_len (l : List Int) (hl : l.length ≤ 1048576) : (vectorOf l).1.length ≤ 1048576 ∧ (vectorOf l).2.1.length ≤ 1048576 := by
  unfold vectorOf vec; split <;> simp <;> omega

theorem impl_VectorOf_ev (l : List Int) (hl : l.length ≤ 1048576) : Ev (fun k => impl_VectorOf.f k l) (vectorOf l) := by
  unfold impl_VectorOf.f vectorOf
  refine evBind0 (impl_vector_eq l hl) (Ev.bind (impl_ArrayOk_ev _ _ hl) ?_)
  by_cases h : arrayOk (vec l).1 (vec l).2 = true
  · exact evEq (evPos h (Ev.now _)) (if_pos h).symm
  · exact evEq (evNeg h (Ev.now _)) (if_neg h).symm

theorem spec_l3Vector_eq (l : List Int) (hl : l.length ≤ 1048576) : spec_l3Vector.f l = some (vec l) := by
  unfold spec_l3Vector.f
  rw [Option.bind_some, if_pos (by rw [List.length_nil]; omega)]; rfl

theorem spec_l1In_eq (a b c : Int) : spec_l1In.f a b c = some (decide (b ≤ a ∧ a ≤ c)) := by
  unfold spec_l1In.f
  by_cases h : a ≥ b
  · rw [if_pos h]; congr 1; rw [Bool.eq_iff_iff, decide_eq_true_iff, decide_eq_true_iff]; omega
  · rw [if_neg h]; congr 1; symm; rw [decide_eq_false_iff_not]; omega

theorem spec_SizeOf_l1 (l : List Int) (hl : ¬ 3 < l.length) (z : Bool) (hr : inR l = true) (hz : z = true → prod l = 0) (d : Nat) : ∀ (i : Nat), i + d = l.length → Ev (fun k => spec_SizeOf.l1 k l z (prod (l.take i)) (i : Int)) (if prod l > 300 then -1 else prod l) := by
  induction d with
  | zero =>
    intro i hi
    have e : l.take i = l := List.take_of_length_le (by omega)
    rw [e]
    refine Ev.step (f := fun _ => some (if prod l > 300 then -1 else prod l)) (fun k => ?_) (Ev.now _)
    simp only [spec_SizeOf.l1]; rw [if_neg (by omega)]
    by_cases h : prod l > 300
    · rw [if_pos h, if_pos h]
      rw [if_neg (by intro hh; have := hz hh; omega)]
    · rw [if_neg h, if_neg h]
  | succ d ih =>
    intro i hi
    have hlt : i < l.length := by omega
    have hr' := inR_take (i + 1) hr
    refine Ev.step (f := fun k => spec_SizeOf.l1 k l z (prod (l.take (i + 1))) ((i + 1 : Nat) : Int)) (fun k => ?_) (ih (i + 1) (by omega))
    simp only [spec_SizeOf.l1]
    have hp := prod_take_le l (i + 1) hl hr'
    rw [if_pos (by omega), if_pos (by omega), rdn l i hlt, w64s i (by omega), ← prod_take_succ l i hlt, w64 (by omega) (by omega)]
theorem prod_zero (l : List Int) (h : l.any (· == 0) = true) : prod l = 0 := by
  induction l with
  | nil => simp at h
  | cons a l ih =>
    rw [List.any_cons, Bool.or_eq_true] at h
    rcases h with h | h
    · have : a = 0 := by simpa using h
      rw [prod, this, Int.zero_mul]
    · rw [prod, ih h, Int.mul_zero]
theorem spec_SizeOf_l0 (l : List Int) (hl : ¬ 3 < l.length) (d : Nat) : ∀ (i : Nat) (z : Bool), i + d = l.length → inR (l.take i) = true → z = (l.take i).any (· == 0) → Ev (fun k => spec_SizeOf.l0 k l z (i : Int)) (if inR l = true then (if prod l > 300 then -1 else prod l) else -1) := by
  induction d with
  | zero =>
    intro i z hi hr hz
    have e : l.take i = l := List.take_of_length_le (by omega)
    rw [e] at hr hz
    rw [if_pos hr]
    refine Ev.step (f := fun k => spec_SizeOf.l1 k l z 1 0) (fun k => ?_) ?_
    · simp only [spec_SizeOf.l0]; rw [if_neg (by omega)]
    · exact spec_SizeOf_l1 l hl z hr (fun h => prod_zero l (by rw [← hz]; exact h)) l.length 0 (by omega)
  | succ d ih =>
    intro i z hi hr hz
    have hlt : i < l.length := by omega
    by_cases hx : 0 ≤ l[i] ∧ l[i] ≤ 300
    · have hr' := (inR_take_succ l i hlt).2 ⟨hr, hx⟩
      refine Ev.step (f := fun k => spec_SizeOf.l0 k l ((l.take (i + 1)).any (· == 0)) ((i + 1 : Nat) : Int)) (fun k => ?_) (ih (i + 1) _ (by omega) hr' rfl)
      simp only [spec_SizeOf.l0]
      rw [if_pos (by omega), if_pos (by omega), spec_l1In_eq, rdn l i hlt, decide_eq_true hx]
      simp only [Option.bind_some, if_true]
      rw [w64s i (by omega), List.take_succ_eq_append_getElem hlt, List.any_append, ← hz]
      cases z with
      | true => simp
      | false => simp
    · rw [if_neg (by rw [inR_not i hlt hx]; simp)]
      refine Ev.step (f := fun _ => some (-1)) (fun k => ?_) (Ev.now _)
      simp only [spec_SizeOf.l0]
      rw [if_pos (by omega), if_pos (by omega), spec_l1In_eq, rdn l i hlt, decide_eq_false hx]
      rfl
theorem spec_SizeOf_ev (l : List Int) : Ev (fun k => spec_SizeOf.f k l) (szOf l) := by
  unfold spec_SizeOf.f szOf
  by_cases h : 3 < l.length
  · rw [if_pos h]; exact evPos (by omega) (Ev.now _)
  · rw [if_neg h]
    refine evNeg (by omega) ?_
    exact spec_SizeOf_l0 l h l.length 0 false (by omega) (by simp [inR]) (by simp)

theorem spec_NumOk_eq (a : Int) : spec_NumOk.f a = some (okN a) := by
  unfold spec_NumOk.f; rw [spec_l1In_eq]; rfl

theorem spec_ArrayOk_l0 (s l : List Int) (hl : l.length ≤ 1048576) (d : Nat) : ∀ (i : Nat), i + d = l.length → (l.take i).all okN = true → Ev (fun k => spec_ArrayOk.l0 k (i : Int) s l) (l.all okN) := by
  induction d with
  | zero =>
    intro i hi ht
    refine Ev.step (f := fun _ => some true) (fun k => ?_) (evSome ?_)
    · simp only [spec_ArrayOk.l0]; rw [if_neg (by omega)]
    · rw [List.take_of_length_le (by omega)] at ht; exact ht.symm
  | succ d ih =>
    intro i hi ht
    have hlt : i < l.length := by omega
    by_cases hx : okN l[i] = true
    · refine Ev.step (f := fun k => spec_ArrayOk.l0 k ((i + 1 : Nat) : Int) s l) (fun k => ?_) (ih (i + 1) (by omega) (by rw [List.take_succ_eq_append_getElem hlt, List.all_append, ht]; simp [hx]))
      simp only [spec_ArrayOk.l0]
      rw [if_pos (by omega), if_pos (by omega), spec_NumOk_eq, rdn l i hlt]; simp only [Option.bind_some]; rw [if_pos hx, w64s i (by omega)]
    · refine Ev.step (f := fun _ => some false) (fun k => ?_) (evSome ?_)
      · simp only [spec_ArrayOk.l0]
        rw [if_pos (by omega), if_pos (by omega), spec_NumOk_eq, rdn l i hlt]; simp only [Option.bind_some]; rw [if_neg hx]
      · symm; rw [List.all_eq_false]; exact ⟨_, List.getElem_mem hlt, hx⟩
theorem spec_ArrayOk_ev (s d : List Int) (hd : d.length ≤ 1048576) : Ev (fun k => spec_ArrayOk.f k s d) (arrayOk s d) := by
  unfold spec_ArrayOk.f arrayOk
  refine Ev.bind (spec_SizeOf_ev s) ?_
  by_cases h : szOf s = (d.length : Int)
  · refine evPos h (evEq (spec_ArrayOk_l0 s d hd d.length 0 (by omega) (by simp)) ?_)
    rw [decide_eq_true h.symm]; rfl
  · exact evNeg h (evSome (by rw [decide_eq_false (fun e => h e.symm)]; rfl))

theorem spec_VectorOf_ev (l : List Int) (hl : l.length ≤ 1048576) : Ev (fun k => spec_VectorOf.f k l) (vectorOf l) := by
  unfold spec_VectorOf.f vectorOf
  refine evBind0 (spec_l3Vector_eq l hl) (Ev.bind (spec_ArrayOk_ev _ _ hl) ?_)
  by_cases h : arrayOk (vec l).1 (vec l).2 = true
  · exact evEq (evPos h (Ev.now _)) (if_pos h).symm
  · exact evEq (evNeg h (Ev.now _)) (if_neg h).symm

def numAt (s d x : List Int) : Int × Bool := if arrayOk s d = true ∧ placeOf s x ≥ 0 then (rd d (placeOf s x), true) else (0, false)
theorem placeGo_lt : ∀ (s x : List Int) (a : Int), s.length = x.length → 0 ≤ a → placeGo a s x ≥ 0 → inR s = true → placeGo a s x < (a + 1) * prod s ∧ 0 ≤ placeGo a s x
  | [], [], a, _, h0, h, _ => by simp [placeGo, prod]; omega
  | [], _ :: _, _, hl, _, _, _ => by simp at hl
  | _ :: _, [], _, hl, _, _, _ => by simp at hl
  | n :: s, i :: x, a, hl, h0, h, hr => by
    obtain ⟨⟨hn0, hn1⟩, hr2⟩ := inR_cons.1 hr
    unfold placeGo at h ⊢
    by_cases hx : 0 ≤ i ∧ i ≤ n - 1
    · rw [if_pos hx] at h ⊢
      have hm := Int.mul_nonneg h0 hn0
      obtain ⟨h1, h2⟩ := placeGo_lt s x (a * n + i) (by simpa using hl) (by omega) h hr2
      refine ⟨Int.lt_of_lt_of_le h1 ?_, h2⟩
      rw [prod, ← Int.mul_assoc]
      have hp := (prod_le s hr2).1
      refine Int.mul_le_mul_of_nonneg_right ?_ hp
      rw [Int.add_mul, Int.one_mul]; omega
    · rw [if_neg hx] at h; omega
theorem placeOf_lt {s d x : List Int} (ha : arrayOk s d = true) (h : placeOf s x ≥ 0) : placeOf s x < d.length := by
  obtain ⟨h1, _, _, _, h2⟩ := arrayOk_t ha
  obtain ⟨_, h3, _, h4⟩ := szOf_nonneg h2
  unfold placeOf at h ⊢
  by_cases hc : szOf s ≥ 0 ∧ x.length = s.length
  · rw [if_pos hc] at h ⊢
    have := (placeGo_lt s x 0 hc.2.symm (by omega) h h3).1
    rw [Int.zero_add, Int.one_mul] at this; omega
  · rw [if_neg hc] at h; omega

theorem impl_ShapeOk_ev (l : List Int) : Ev (fun k => impl_ShapeOk.f k l) (decide (szOf l ≥ 0)) := by
  unfold impl_ShapeOk.f
  exact Ev.bind (impl_SizeOf_ev l) (Ev.now _)

theorem impl_PlaceOf_l0 (s x : List Int) (hs : ¬ 3 < s.length) (hr : inR s = true) (hx : x.length = s.length) (d : Nat) : ∀ (i : Nat) (a : Int), i + d = s.length → 0 ≤ a → a ≤ pb i → Ev (fun k => impl_PlaceOf.l0 k x a s (s.length : Int) (i : Int)) (placeGo a (s.drop i) (x.drop i)) := by
  induction d with
  | zero =>
    intro i a hi h0 h1
    have e : s.drop i = [] := List.drop_of_length_le (by omega)
    refine Ev.step (f := fun _ => some a) (fun k => ?_) (evSome ?_)
    · simp only [impl_PlaceOf.l0]; rw [if_neg (by omega)]
    · rw [e]; rfl
  | succ d ih =>
    intro i a hi h0 h1
    have hlt : i < s.length := by omega
    have hlt' : i < x.length := by omega
    rw [List.drop_eq_getElem_cons hlt, List.drop_eq_getElem_cons hlt']
    have hr1 := ((inR_take_succ s i hlt).1 (inR_take (i + 1) hr)).2
    have hp1 : pb i ≤ 28000000 := pb_le (by omega)
    have hq : wrap64 (s[i] - 1) = s[i] - 1 := by rw [w64] <;> omega
    unfold placeGo
    by_cases hx1 : 0 ≤ x[i] ∧ x[i] ≤ s[i] - 1
    · rw [if_pos hx1]
      have hm := mul300 h0 h1 hr1.1 hr1.2
      have hp2 : pb (i + 1) = 300 * pb i + 300 := rfl
      have hu : a * s[i] + x[i] ≤ pb (i + 1) := by omega
      refine Ev.step (f := fun k => impl_PlaceOf.l0 k x (a * s[i] + x[i]) s (s.length : Int) ((i + 1 : Nat) : Int)) (fun k => ?_) (ih (i + 1) _ (by omega) (by omega) hu)
      simp only [impl_PlaceOf.l0]
      rw [if_pos (by omega), if_pos (by omega), if_pos (by omega), if_pos (by omega), impl_within_eq, rdn x i hlt', rdn s i hlt, hq, decide_eq_true hx1]
      simp only [Option.bind_some, if_true]
      rw [w64s i (by omega), w64 (x := a * s[i]) (by omega) (by omega), w64 (by omega) (by omega)]
    · rw [if_neg hx1]
      refine Ev.step (f := fun _ => some (-1)) (fun k => ?_) (Ev.now _)
      simp only [impl_PlaceOf.l0]
      rw [if_pos (by omega), if_pos (by omega), if_pos (by omega), if_pos (by omega), impl_within_eq, rdn x i hlt', rdn s i hlt, hq, decide_eq_false hx1]
      rfl
theorem impl_PlaceOf_ev (s x : List Int) : Ev (fun k => impl_PlaceOf.f k s x) (placeOf s x) := by
  unfold impl_PlaceOf.f placeOf
  refine Ev.bind (impl_ShapeOk_ev s) ?_
  by_cases h1 : szOf s ≥ 0
  · refine evPos (by simpa using h1) ?_
    obtain ⟨hl, hr, _, _⟩ := szOf_nonneg h1
    by_cases h2 : x.length = s.length
    · rw [if_pos ⟨h1, h2⟩, show ((x.length : Int) != (s.length : Int)) = false by simp [h2]]
      refine Ev.step (f := fun k => impl_PlaceOf.l0 k x 0 s (s.length : Int) 0) (fun k => ?_) (impl_PlaceOf_l0 s x hl hr h2 s.length 0 0 (by omega) (by omega) (by simp [pb]))
      simp only [impl_PlaceOf.j0]; rw [if_neg (by simp)]
    · rw [if_neg (fun h => h2 h.2), show ((x.length : Int) != (s.length : Int)) = true by simp; omega]
      refine Ev.step (f := fun _ => some (-1)) (fun k => ?_) (Ev.now _)
      rw [impl_PlaceOf.j0]; exact if_pos rfl
  · refine evNeg (by simpa using h1) ?_
    rw [if_neg (fun h => h1 h.1)]
    refine Ev.step (f := fun _ => some (-1)) (fun k => ?_) (Ev.now _)
    rw [impl_PlaceOf.j0]; exact if_pos rfl

theorem impl_NumAt_ev (s d x : List Int) (hd : d.length ≤ 1048576) : Ev (fun k => impl_NumAt.f k s d x) (numAt s d x) := by
  unfold impl_NumAt.f numAt
  refine Ev.bind (impl_PlaceOf_ev s x) (Ev.bind (impl_ArrayOk_ev s d hd) ?_)
  by_cases h1 : arrayOk s d = true
  · refine evPos h1 ?_
    by_cases h2 : placeOf s x ≥ 0
    · exact evEq (evNeg (by omega) (evPos (by omega) (evPos (placeOf_lt h1 h2) (Ev.now _)))) (if_pos (And.intro h1 h2)).symm
    · exact evEq (evPos (by omega) (Ev.now _)) (if_neg (fun h : _ ∧ _ => h2 h.2)).symm
  · exact evEq (evNeg h1 (Ev.now _)) (if_neg (fun h : _ ∧ _ => h1 h.1)).symm

theorem laws_sameInts_l0 (l m : List Int) (hl : l.length ≤ 35184372088832) (hm : l.length = m.length) (d : Nat) : ∀ (i : Nat), i + d = l.length → Ev (fun k => laws_sameInts.l0 k l m (i : Int)) (decide (l.drop i = m.drop i)) := by
  induction d with
  | zero =>
    intro i hi
    refine Ev.step (f := fun _ => some (decide (l.drop i = m.drop i))) (fun k => ?_) (Ev.now _)
    simp only [laws_sameInts.l0]
    rw [if_neg (by omega), List.drop_of_length_le (by omega), List.drop_of_length_le (by omega)]; simp
  | succ d ih =>
    intro i hi
    have hlt : i < l.length := by omega
    have hlt' : i < m.length := by omega
    have e1 := List.drop_eq_getElem_cons hlt
    have e2 := List.drop_eq_getElem_cons hlt'
    by_cases hx : l[i] = m[i]
    · refine Ev.step (f := fun k => laws_sameInts.l0 k l m ((i + 1 : Nat) : Int)) (fun k => ?_) (evEq (ih (i + 1) (by omega)) ?_)
      · simp only [laws_sameInts.l0]
        rw [if_pos (by omega), if_pos (by omega), if_pos (by omega), rdn l i hlt, rdn m i hlt', if_pos hx, w64s i (by omega)]
      · rw [e1, e2, hx]; simp only [List.cons.injEq, true_and]
    · refine Ev.step (f := fun _ => some false) (fun k => ?_) (evSome ?_)
      · simp only [laws_sameInts.l0]
        rw [if_pos (by omega), if_pos (by omega), if_pos (by omega), rdn l i hlt, rdn m i hlt', if_neg hx]
      · rw [e1, e2]; symm; rw [decide_eq_false_iff_not]; intro h; exact hx (List.cons.inj h).1
theorem laws_sameInts_ev (l m : List Int) (hl : l.length ≤ 35184372088832) : Ev (fun k => laws_sameInts.f k l m) (decide (l = m)) := by
  unfold laws_sameInts.f
  by_cases h : l.length = m.length
  · refine evPos (by omega) ?_
    exact laws_sameInts_l0 l m hl h l.length 0 (by omega)
  · refine evNeg (by omega) (evSome ?_)
    symm; rw [decide_eq_false_iff_not]; intro e; exact h (by rw [e])
theorem laws_sameInts_rfl (l : List Int) (hl : l.length ≤ 35184372088832) : Ev (fun k => laws_sameInts.f k l l) true := evEq (laws_sameInts_ev l l hl) (by simp)

theorem laws_big_eq (l : List Int) : laws_big.f l = some (decide ((l.length : Int) > 1048576)) := rfl

theorem and255 (x : Int) : 0 ≤ Go.bits .and .i64 x 255 ∧ Go.bits .and .i64 x 255 ≤ 255 := by
  have h : Go.bits .and .i64 x 255 = IntKind.i64.wrap (((BitVec.ofInt 64 x).toNat &&& 255 : Nat) : Int) := by
    simp only [Go.bits, BitVec.toNat_and]; rfl
  have h2 : (BitVec.ofInt 64 x).toNat &&& 255 ≤ 255 := Nat.and_le_right
  rw [h, IntKind.wrap_i64]; omega
/-- A cursor's place lies in its bytes. -/
def Cu (c : List Int) (i : Int) : Prop := 0 ≤ i ∧ i ≤ c.length
theorem spec_l1Byte_dr (c : List Int) (i h : Int) (hc : Cu c i) (hl : c.length ≤ 1048576) : ∃ x i' h', spec_l1Byte.f c i h = some (x, i', h') ∧ (0 ≤ x ∧ x ≤ 255) ∧ Cu c i' := by
  obtain ⟨h0, h1⟩ := hc
  unfold spec_l1Byte.f
  by_cases h2 : i < (c.length : Int)
  · rw [if_pos h2, if_pos h0, w64 (x := i + 1) (by omega) (by omega)]
    exact ⟨_, _, _, rfl, and255 _, by omega, by omega⟩
  · rw [if_neg h2]
    exact ⟨_, _, _, rfl, and255 _, h0, h1⟩
theorem spec_l1Below_dr (c : List Int) (i h n : Int) (hc : Cu c i) (hl : c.length ≤ 1048576) : ∃ x i' h', spec_l1Below.f c i h n = some (x, i', h') ∧ (0 ≤ x ∧ (x < n ∨ n ≤ 0 ∧ x = 0)) ∧ Cu c i' := by
  unfold spec_l1Below.f
  by_cases h1 : n ≤ 0
  · rw [if_pos h1]; exact ⟨_, _, _, rfl, ⟨by omega, .inr ⟨h1, rfl⟩⟩, hc⟩
  · rw [if_neg h1]
    by_cases h2 : n ≤ 256
    · obtain ⟨x, i', h', e, hx, hc'⟩ := spec_l1Byte_dr c i h hc hl
      rw [if_pos h2, e, Option.bind_some, if_neg (by omega)]
      have h3 := Int.tmod_eq_emod_of_nonneg (b := n) hx.1
      have h4 := Int.emod_nonneg x (show n ≠ 0 by omega)
      have h5 := Int.emod_lt_of_pos x (show 0 < n by omega)
      exact ⟨_, _, _, rfl, ⟨by rw [h3]; exact h4, .inl (by rw [h3]; exact h5)⟩, hc'⟩
    · obtain ⟨x, i1, h1', e1, hx, hc1⟩ := spec_l1Byte_dr c i h hc hl
      obtain ⟨y, i2, h2', e2, hy, hc2⟩ := spec_l1Byte_dr c i1 h1' hc1 hl
      obtain ⟨z, i3, h3', e3, hz, hc3⟩ := spec_l1Byte_dr c i2 h2' hc2 hl
      obtain ⟨u, i4, h4', e4, hu, hc4⟩ := spec_l1Byte_dr c i3 h3' hc3 hl
      rw [if_neg h2, e1, Option.bind_some]; dsimp only
      rw [e2, Option.bind_some]; dsimp only
      rw [e3, Option.bind_some]; dsimp only
      rw [e4, Option.bind_some]; dsimp only
      rw [if_neg (by omega), w64 (x := x * 16777216) (by omega) (by omega), w64 (x := y * 65536) (by omega) (by omega), w64 (x := x * 16777216 + y * 65536) (by omega) (by omega), w64 (x := z * 256) (by omega) (by omega), w64 (x := x * 16777216 + y * 65536 + z * 256) (by omega) (by omega), w64 (x := x * 16777216 + y * 65536 + z * 256 + u) (by omega) (by omega)]
      generalize hq : x * 16777216 + y * 65536 + z * 256 + u = q
      have h3 := Int.tmod_eq_emod_of_nonneg (b := n) (show 0 ≤ q by omega)
      have h4 := Int.emod_nonneg q (show n ≠ 0 by omega)
      have h5 := Int.emod_lt_of_pos q (show 0 < n by omega)
      exact ⟨_, _, _, rfl, ⟨by rw [h3]; exact h4, .inl (by rw [h3]; exact h5)⟩, hc4⟩

theorem spec_l1New_l0 (c : List Int) (hl : c.length ≤ 1048576) (d : Nat) : ∀ (i : Nat) (h : Int), i + d = c.length → ∃ h', Ev (fun k => spec_l1New.l0 k c h (i : Int)) (c, 0, h') := by
  induction d with
  | zero =>
    intro i h hi
    refine ⟨h, Ev.step (f := fun _ => some (c, 0, h)) (fun k => ?_) (Ev.now _)⟩
    simp only [spec_l1New.l0]; rw [if_neg (by omega)]
  | succ d ih =>
    intro i h hi
    by_cases h4 : (i : Int) < 4000
    · obtain ⟨h', e⟩ := ih (i + 1) (Go.bits .and .i64 (wrap64 ((wrap64 ((wrap64 (h * 131)) + (wrap64 (rd c (i : Int))))) + 7)) 1073741823) (by omega)
      refine ⟨h', Ev.step (fun k => ?_) e⟩
      simp only [spec_l1New.l0]
      rw [if_pos (by omega), if_pos h4, if_pos (by omega), w64s i (by omega)]
    · refine ⟨h, Ev.step (f := fun _ => some (c, 0, h)) (fun k => ?_) (Ev.now _)⟩
      simp only [spec_l1New.l0]; rw [if_pos (by omega), if_neg h4]
theorem spec_l1New_dr (c : List Int) (hl : c.length ≤ 1048576) : ∃ h, Ev (fun k => spec_l1New.f k c) (c, 0, h) := by
  unfold spec_l1New.f
  exact spec_l1New_l0 c hl c.length 0 _ (by omega)
theorem cu0 (c : List Int) : Cu c 0 := ⟨Int.le_refl 0, by omega⟩

theorem spec_l1Once_dr (c : List Int) (i h n : Int) (hc : Cu c i) (hl : c.length ≤ 1048576) : ∃ x i' h', spec_l1Once.f c i h n = some (x, i', h') ∧ Cu c i' := by
  obtain ⟨x, i', h', e, _, hc'⟩ := spec_l1Below_dr c i h n hc hl
  unfold spec_l1Once.f; rw [e, Option.bind_some]
  exact ⟨_, _, _, rfl, hc'⟩

theorem spec_l1PickInt_dr (c : List Int) (i h : Int) (l : List Int) (hn : 0 < l.length) (hc : Cu c i) (hl : c.length ≤ 1048576) : ∃ x i' h', spec_l1PickInt.f c i h l = some (x, i', h') ∧ x ∈ l ∧ Cu c i' := by
  obtain ⟨x, i', h', e, hx, hc'⟩ := spec_l1Below_dr c i h (l.length : Int) hc hl
  have h1 : x < (l.length : Int) := by omega
  have h2 : x.toNat < l.length := by omega
  unfold spec_l1PickInt.f; rw [e, Option.bind_some]; dsimp only
  rw [if_pos hx.1, if_pos h1]
  refine ⟨_, _, _, rfl, ?_, hc'⟩
  simp only [rd, List.getD_eq_getElem?_getD, List.getElem?_eq_getElem h2, Option.getD_some]
  exact List.getElem_mem h2

theorem spec_l1DrawNum_dr (c : List Int) (i h : Int) (hc : Cu c i) (hl : c.length ≤ 1048576) : ∃ x i' h', spec_l1DrawNum.f c i h = some (x, i', h') ∧ (-1000000000000 ≤ x ∧ x ≤ 1000000000000) ∧ Cu c i' := by
  obtain ⟨b, i1, h1, e1, hc1⟩ := spec_l1Once_dr c i h 12 hc hl
  unfold spec_l1DrawNum.f; rw [e1, Option.bind_some]; dsimp only
  cases b with
  | true =>
    obtain ⟨x, i2, h2, e2, hx, hc2⟩ := spec_l1PickInt_dr c i1 h1 [1000000000000, -1000000000000, 999999999999, 1000000, -1000000, 1000001, 999999999999] (by decide) hc1 hl
    rw [if_pos rfl, e2, Option.bind_some]
    refine ⟨_, _, _, rfl, ?_, hc2⟩
    simp only [List.mem_cons, List.not_mem_nil, or_false] at hx
    dsimp only
    omega
  | false =>
    obtain ⟨x, i2, h2, e2, hx, hc2⟩ := spec_l1Below_dr c i1 h1 20 hc1 hl
    rw [if_neg (by simp), e2, Option.bind_some]
    refine ⟨_, _, _, rfl, ?_, hc2⟩
    dsimp only
    rw [w64 (by omega) (by omega)]; omega

theorem spec_l1DrawRaw_dr (c : List Int) (i h : Int) (hc : Cu c i) (hl : c.length ≤ 1048576) : ∃ x i' h', spec_l1DrawRaw.f c i h = some (x, i', h') ∧ (-9223372036854775808 ≤ x ∧ x ≤ 9223372036854775807) ∧ Cu c i' := by
  obtain ⟨b, i1, h1, e1, hc1⟩ := spec_l1Once_dr c i h 15 hc hl
  unfold spec_l1DrawRaw.f; rw [e1, Option.bind_some]; dsimp only
  cases b with
  | true =>
    obtain ⟨x, i2, h2, e2, hx, hc2⟩ := spec_l1PickInt_dr c i1 h1 [1000000000001, -1000000000001, 9223372036854775807, -9223372036854775808] (by decide) hc1 hl
    rw [if_pos rfl, e2, Option.bind_some]
    refine ⟨_, _, _, rfl, ?_, hc2⟩
    simp only [List.mem_cons, List.not_mem_nil, or_false] at hx
    dsimp only
    omega
  | false =>
    obtain ⟨x, i2, h2, e2, hx, hc2⟩ := spec_l1DrawNum_dr c i1 h1 hc1 hl
    rw [if_neg (by simp), e2, Option.bind_some]
    refine ⟨_, _, _, rfl, ?_, hc2⟩
    dsimp only
    omega

theorem spec_l1Size_eq (l : List Int) (hl : l.length ≤ 1048576) : ∃ n, spec_l1Size.f l 12 = some n ∧ n ≤ 12 ∧ 0 ≤ n := by
  unfold spec_l1Size.f
  have h1 : 0 ≤ (l.length : Int) / 20 ∧ (l.length : Int) / 20 ≤ 1048576 := by omega
  rw [w64 (x := (l.length : Int) / 20) (by omega) (by omega), w64 (x := 2 + (l.length : Int) / 20) (by omega) (by omega)]
  by_cases h : 2 + (l.length : Int) / 20 > 12
  · rw [if_pos h]; exact ⟨_, rfl, by omega, by omega⟩
  · rw [if_neg h]; exact ⟨_, rfl, by omega, by omega⟩
theorem spec_DrawVectorOf_j1 (c : List Int) (hl : c.length ≤ 1048576) (x : List Int) (i h : Int) (hx : x.length ≤ 1000) (hc : Cu c i) : ∃ v, Ev (fun k => spec_DrawVectorOf.j1 k x c i h) v ∧ v.length ≤ 1000 := by
  obtain ⟨b, i1, h1, e1, hc1⟩ := spec_l1Once_dr c i h 40 hc hl
  cases b with
  | true =>
    obtain ⟨y, i2, h2, e2, hy, hc2⟩ := spec_l1Below_dr c i1 h1 2 hc1 hl
    have hw : wrap64 (300 + y) = 300 + y := w64 (by omega) (by omega)
    refine ⟨List.replicate (300 + y).toNat 0, Ev.step (fun k => by rw [spec_DrawVectorOf.j1]) (evBind0 e1 ?_), by rw [List.length_replicate]; omega⟩
    dsimp only
    refine evPos rfl (evBind0 e2 ?_)
    dsimp only
    rw [hw]
    repeat' (first | exact Ev.now _ | (refine evPos (by omega) ?_))
  | false =>
    refine ⟨x, Ev.step (fun k => by rw [spec_DrawVectorOf.j1]) (evBind0 e1 ?_), hx⟩
    dsimp only
    exact evNeg (by simp) (Ev.now _)
theorem spec_DrawVectorOf_l0 (c : List Int) (hl : c.length ≤ 1048576) (n : Int) (hn : n ≤ 20) (d : Nat) : ∀ (j : Nat) (x : List Int) (i h : Int), n - j ≤ d → x.length = j → j ≤ 20 → Cu c i → ∃ v, Ev (fun k => spec_DrawVectorOf.l0 k x n (j : Int) c i h) v ∧ v.length ≤ 1000 := by
  induction d with
  | zero =>
    intro j x i h hd hx hj hc
    obtain ⟨b, i1, h1, e1, hc1⟩ := spec_l1Once_dr c i h 15 hc hl
    cases b with
    | true =>
      obtain ⟨y, i2, h2, e2, hy, hc2⟩ := spec_l1DrawRaw_dr c i1 h1 hc1 hl
      obtain ⟨v, ev, hv⟩ := spec_DrawVectorOf_j1 c hl (x ++ [y]) i2 h2 (by simp; omega) hc2
      refine ⟨v, Ev.step (fun k => by rw [spec_DrawVectorOf.l0]) (evNeg (by omega) (evBind0 e1 ?_)), hv⟩
      dsimp only
      refine evPos rfl (evBind0 e2 ?_)
      dsimp only
      exact evPos (by omega) ev
    | false =>
      obtain ⟨v, ev, hv⟩ := spec_DrawVectorOf_j1 c hl x i1 h1 (by omega) hc1
      refine ⟨v, Ev.step (fun k => by rw [spec_DrawVectorOf.l0]) (evNeg (by omega) (evBind0 e1 ?_)), hv⟩
      dsimp only
      exact evNeg (by simp) ev
  | succ d ih =>
    intro j x i h hd hx hj hc
    by_cases hlt : (j : Int) < n
    · obtain ⟨y, i2, h2, e2, hy, hc2⟩ := spec_l1DrawNum_dr c i h hc hl
      obtain ⟨v, ev, hv⟩ := ih (j + 1) (x ++ [y]) i2 h2 (by omega) (by simp [hx]) (by omega) hc2
      refine ⟨v, Ev.step (fun k => by rw [spec_DrawVectorOf.l0]) (evPos hlt (evBind0 e2 ?_)), hv⟩
      dsimp only
      rw [w64s j (by omega)]
      exact evPos (by omega) ev
    · have h0 : n - j ≤ (0 : Nat) := by omega
      obtain ⟨b, i1, h1, e1, hc1⟩ := spec_l1Once_dr c i h 15 hc hl
      cases b with
      | true =>
        obtain ⟨y, i2, h2, e2, hy, hc2⟩ := spec_l1DrawRaw_dr c i1 h1 hc1 hl
        obtain ⟨v, ev, hv⟩ := spec_DrawVectorOf_j1 c hl (x ++ [y]) i2 h2 (by simp; omega) hc2
        refine ⟨v, Ev.step (fun k => by rw [spec_DrawVectorOf.l0]) (evNeg (by omega) (evBind0 e1 ?_)), hv⟩
        dsimp only
        refine evPos rfl (evBind0 e2 ?_)
        dsimp only
        exact evPos (by omega) ev
      | false =>
        obtain ⟨v, ev, hv⟩ := spec_DrawVectorOf_j1 c hl x i1 h1 (by omega) hc1
        refine ⟨v, Ev.step (fun k => by rw [spec_DrawVectorOf.l0]) (evNeg (by omega) (evBind0 e1 ?_)), hv⟩
        dsimp only
        exact evNeg (by simp) ev
theorem spec_DrawVectorOf_dr (c : List Int) (hl : c.length ≤ 1048576) : ∃ v, Ev (fun k => spec_DrawVectorOf.f k c) v ∧ v.length ≤ 1000 := by
  unfold spec_DrawVectorOf.f
  obtain ⟨h0, e0⟩ := spec_l1New_dr c hl
  obtain ⟨n, en, hn, hn0⟩ := spec_l1Size_eq c hl
  obtain ⟨m, i1, h1, e1, hm, hc1⟩ := spec_l1Below_dr c 0 h0 (wrap64 (n + 1)) (cu0 c) hl
  have hw : wrap64 (n + 1) = n + 1 := w64 (by omega) (by omega)
  rw [hw] at hm
  obtain ⟨v, ev, hv⟩ := spec_DrawVectorOf_l0 c hl m (by omega) 20 0 [] i1 h1 (by omega) rfl (by omega) hc1
  exact ⟨v, Ev.bind e0 (evBind0 en (evBind0 e1 ev)), hv⟩
theorem spec_DrawScalarOf_dr (c : List Int) (hl : c.length ≤ 1048576) : ∃ x, Ev (fun k => spec_DrawScalarOf.f k c) x := by
  unfold spec_DrawScalarOf.f
  obtain ⟨h0, e0⟩ := spec_l1New_dr c hl
  obtain ⟨x, i1, h1, e1, _, _⟩ := spec_l1DrawRaw_dr c 0 h0 (cu0 c) hl
  exact ⟨x, Ev.bind e0 (evBind0 e1 (Ev.now _))⟩

def scalarOf (x : Int) : List Int × List Int × Bool := if okN x = true then ([], [x], true) else ([], [], false)
theorem impl_ScalarOf_eq (x : Int) : impl_ScalarOf.f x = some (scalarOf x) := by
  unfold impl_ScalarOf.f scalarOf; rw [impl_NumOk_eq, Option.bind_some]; split <;> rfl
theorem FnVectors_tail (x : Int) : numAt (scalarOf x).1 (scalarOf x).2.1 [] = if okN x = true then (x, true) else (0, false) := by
  unfold scalarOf
  by_cases h : okN x = true
  · rw [if_pos h, if_pos h]
    have h1 : arrayOk [] [x] = true := by simp [arrayOk, h, szOf, inR, prod]
    have h2 : placeOf [] [] = 0 := by decide
    unfold numAt; rw [if_pos ⟨h1, by rw [h2]; decide⟩, h2]; rfl
  · rw [if_neg h, if_neg h]
    have h1 : arrayOk [] [] = false := by decide
    unfold numAt; rw [if_neg (fun h => by rw [h1] at h; exact absurd h.1 (by decide))]
theorem FnVectors : laws_FnVectors.Pure := by
  intro l _ _ _
  refine Ev.rounds (g := fun k => laws_FnVectors.f k l) ?_
  unfold laws_FnVectors.f
  refine evBind0 (laws_big_eq l) ?_
  by_cases hb : (l.length : Int) > 1048576
  · exact evPos (decide_eq_true hb) (Ev.now _)
  refine evNeg (by simpa using hb) ?_
  have hl : l.length ≤ 1048576 := by omega
  obtain ⟨v, e, hv⟩ := spec_DrawVectorOf_dr l hl
  obtain ⟨x, e2⟩ := spec_DrawScalarOf_dr l hl
  have hlen := vectorOf_len v (by omega)
  refine Ev.bind e (Ev.bind (impl_VectorOf_ev v (by omega)) (Ev.bind (spec_VectorOf_ev v (by omega)) (Ev.bind e2 (evBind0 (impl_ScalarOf_eq x) ?_))))
  refine evNeg (by simp) (evBind0 (spec_NumOk_eq x) ?_)
  have hs : (scalarOf x).2.2 = okN x := by unfold scalarOf; by_cases h : okN x = true <;> simp [h]
  refine evNeg (by rw [hs]; simp) (evBind0 (impl_NumOk_eq x) ?_)
  rw [hs, show (okN x != okN x) = false by simp]
  have ht : Ev (fun k => (impl_NumAt.f k (scalarOf x).1 (scalarOf x).2.1 ([] : List Int)).bind fun bt => (if okN x = true then (if bt.2 = true then (if bt.1 = x then (some (((scalarOf x).1.length : Int) == 0)) else (some false)) else (some false)) else (if ((scalarOf x).2.1.length : Int) = 0 then (some true) else (some false)))) true := by
    have hd : (scalarOf x).2.1.length ≤ 1048576 := by unfold scalarOf; split <;> simp
    refine Ev.bind (impl_NumAt_ev _ _ _ hd) ?_
    rw [FnVectors_tail]
    by_cases h : okN x = true
    · rw [show (if okN x = true then (x, true) else ((0 : Int), false)) = (x, true) from if_pos h]
      refine evPos h (evPos rfl (evPos rfl (evSome ?_)))
      unfold scalarOf; rw [if_pos h]; rfl
    · refine evNeg h (evPos ?_ (Ev.now _))
      unfold scalarOf; rw [if_neg h]; rfl
  refine Ev.step (fun k => by rw [laws_FnVectors.j0]) (evNeg (by simp) ?_)
  by_cases h : arrayOk (vec v).1 (vec v).2 = true
  · have e3 : vectorOf v = ((vec v).1, (vec v).2, true) := by unfold vectorOf; rw [if_pos h]
    rw [e3]
    refine evPos rfl (Ev.bind (laws_sameInts_rfl v (by omega)) (evPos rfl (Ev.bind (laws_sameInts_rfl [(v.length : Int)] (by simp)) (evPos rfl (Ev.bind (impl_ArrayOk_ev _ _ (by show v.length ≤ 1048576; omega)) (evPos h ht))))))
  · have e3 : vectorOf v = ([], [], false) := by unfold vectorOf; rw [if_neg h]
    rw [e3]
    exact evNeg (by simp) ht

end Go.Proofs.Ytlaikodjcjfeiaa.Pure
