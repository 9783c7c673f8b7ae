/- The law FnReshaped answers true for each code: a drawn array that is reshaped by its own shape is itself; by any shape it has that shape, and its numbers again and again. Conditions: those of the row's own reading alone. -/
import Derived.Test.YtcnbajdnlkcjjaaPFnReshapedx
namespace Go.Proofs.Ytcnbajdnlkcjjaa.Pure
open Go.RowKit Go.Proofs.Ytcnbajdnlkcjjaa.PFnReshaped Go.Proofs.YtcnbajdnlkcjjaaW.PrintWords Go.Proofs.YtcnbajdnlkcjjaaW.PrintLast Go.Proofs.YtcnbajdnlkcjjaaW.PrintMore
set_option linter.unusedVariables false
set_option linter.unusedSimpArgs false

section
variable {α β : Type}
theorem evPos {c : Prop} [Decidable c] {g h : Nat → Option α} {r : α} (hc : c) (e : Ev g r) : Ev (fun k => if c then g k else h k) r := by
  simpa only [if_pos hc] using e
theorem evNeg {c : Prop} [Decidable c] {g h : Nat → Option α} {r : α} (hc : ¬ c) (e : Ev h r) : Ev (fun k => if c then g k else h k) r := by
  simpa only [if_neg hc] using e
theorem evBind0 {o : Option α} {f : Nat → α → Option β} {a : α} {r : β} (h : o = some a) (k : Ev (fun n => f n a) r) : Ev (fun n => o.bind (f n)) r := by
  subst h; simpa only [Option.bind_some] using k
theorem evLet {a : α} {f : Nat → α → Option β} {r : β} (k : Ev (fun n => f n a) r) : Ev (fun n => (some a).bind (f n)) r := by
  simpa only [Option.bind_some] using k
theorem evEq {g : Nat → Option α} {r r' : α} (h : Ev g r) (e : r = r') : Ev g r' := e ▸ h
theorem evSomeEq {o : Option α} {r : α} (e : o = some r) : Ev (fun _ => o) r := e ▸ Ev.now r
theorem evSome {a r : α} (e : a = r) : Ev (fun _ => some a) r := e ▸ Ev.now a
end
theorem w64 {x : Int} (h : -9223372036854775808 ≤ x) (h' : x ≤ 9223372036854775807) : wrap64 x = x := by unfold wrap64; omega
theorem w64s (i : Nat) (h : i < 4611686018427387904) : wrap64 ((i : Int) + 1) = ((i + 1 : Nat) : Int) := by rw [w64] <;> omega
theorem rdn (l : List Int) (i : Nat) (h : i < l.length) : rd l (i : Int) = l[i] := by
  simp only [rd, Int.toNat_natCast, List.getD_eq_getElem?_getD, List.getElem?_eq_getElem h, Option.getD_some]
theorem wfI {x : Int} (h : (Lit.int .i64 x).wf = true) : -9223372036854775808 ≤ x ∧ x ≤ 9223372036854775807 := by
  have h2 : (decide (IntKind.i64.min ≤ x) && decide (x ≤ IntKind.i64.max)) = true := h
  rw [Bool.and_eq_true, decide_eq_true_iff, decide_eq_true_iff] at h2
  have e1 : IntKind.i64.min = -9223372036854775808 := by decide
  have e2 : IntKind.i64.max = 9223372036854775807 := by decide
  rw [e1, e2] at h2
  exact h2

/-- The product of a list. -/
def prod : List Int → Int
  | [] => 1
  | x :: l => x * prod l
/-- May these stand in a shape? -/
def inR (l : List Int) : Bool := l.all fun n => decide (0 ≤ n ∧ n ≤ 300)
/-- How many numbers an array of a shape has; -1 where the shape isn't right. -/
def szOf (l : List Int) : Int := if 3 < l.length then -1 else if inR l = true then (if prod l > 300 then -1 else prod l) else -1
theorem mul300 {a b : Int} {m n : Int} (h0 : 0 ≤ a) (h1 : a ≤ m) (h2 : 0 ≤ b) (h3 : b ≤ n) : 0 ≤ a * b ∧ a * b ≤ m * n :=
  ⟨Int.mul_nonneg h0 h2, Int.mul_le_mul h1 h3 h2 (Int.le_trans h0 h1)⟩
theorem shape_cases {l : List Int} (h : ¬ 3 < l.length) : l = [] ∨ (∃ a, l = [a]) ∨ (∃ a b, l = [a, b]) ∨ ∃ a b c, l = [a, b, c] := by
  match l, h with
  | [], _ => exact .inl rfl
  | [a], _ => exact .inr (.inl ⟨a, rfl⟩)
  | [a, b], _ => exact .inr (.inr (.inl ⟨a, b, rfl⟩))
  | [a, b, c], _ => exact .inr (.inr (.inr ⟨a, b, c, rfl⟩))
  | _ :: _ :: _ :: _ :: _, h => exact absurd (by simp) h
theorem inR_cons {a : Int} {l : List Int} : inR (a :: l) = true ↔ (0 ≤ a ∧ a ≤ 300) ∧ inR l = true := by
  simp [inR]
/-- A part of a shape's product stays small. -/
def pw : Nat → Int
  | 0 => 1
  | n + 1 => 300 * pw n
theorem prod_le : ∀ (l : List Int), inR l = true → 0 ≤ prod l ∧ prod l ≤ pw l.length
  | [], _ => by simp [prod, pw]
  | a :: l, h => by
    obtain ⟨⟨h0, h1⟩, h2⟩ := inR_cons.1 h
    obtain ⟨h3, h4⟩ := prod_le l h2
    exact mul300 h0 h1 h3 h4
theorem prod_append : ∀ (a b : List Int), prod (a ++ b) = prod a * prod b
  | [], b => by simp [prod]
  | x :: a, b => by simp [prod, prod_append a b, Int.mul_assoc]
theorem pw_le {n : Nat} (h : n ≤ 3) : pw n ≤ 27000000 := by
  match n, h with
  | 0, _ => decide
  | 1, _ => decide
  | 2, _ => decide
  | 3, _ => decide
theorem inR_take {l : List Int} (i : Nat) (h : inR l = true) : inR (l.take i) = true := by
  simp only [inR, List.all_eq_true] at h ⊢
  exact fun x hx => h x (List.mem_of_mem_take hx)
theorem prod_take_succ (l : List Int) (i : Nat) (h : i < l.length) : prod (l.take (i + 1)) = prod (l.take i) * l[i] := by
  rw [List.take_succ_eq_append_getElem h, prod_append]; simp [prod]
/-- The product so far is small. -/
theorem prod_take_le (l : List Int) (i : Nat) (hl : ¬ 3 < l.length) (h : inR (l.take i) = true) : 0 ≤ prod (l.take i) ∧ prod (l.take i) ≤ 27000000 := by
  obtain ⟨h0, h1⟩ := prod_le _ h
  have h2 : (l.take i).length ≤ 3 := by rw [List.length_take]; omega
  exact ⟨h0, Int.le_trans h1 (pw_le h2)⟩
theorem inR_take_succ (l : List Int) (i : Nat) (h : i < l.length) : inR (l.take (i + 1)) = true ↔ inR (l.take i) = true ∧ (0 ≤ l[i] ∧ l[i] ≤ 300) := by
  unfold inR
  rw [List.take_succ_eq_append_getElem h, List.all_append, Bool.and_eq_true]; simp
theorem inR_not {l : List Int} (i : Nat) (h : i < l.length) (hx : ¬ (0 ≤ l[i] ∧ l[i] ≤ 300)) : inR l = false := by
  rw [← Bool.not_eq_true]
  intro hh
  simp only [inR, List.all_eq_true] at hh
  exact hx (of_decide_eq_true (hh _ (List.getElem_mem h)))
theorem szOf_ge (l : List Int) : -1 ≤ szOf l ∧ szOf l ≤ 300 := by
  unfold szOf
  by_cases h1 : 3 < l.length
  · rw [if_pos h1]; omega
  · rw [if_neg h1]
    by_cases h2 : inR l = true
    · rw [if_pos h2]
      have := (prod_le l h2).1
      by_cases h3 : prod l > 300
      · rw [if_pos h3]; omega
      · rw [if_neg h3]; omega
    · rw [if_neg h2]; omega

/-- A right number. -/
def okN (x : Int) : Bool := decide (-1000000000000 ≤ x ∧ x ≤ 1000000000000)
theorem okN_t {x : Int} (h : okN x = true) : -1000000000000 ≤ x ∧ x ≤ 1000000000000 := of_decide_eq_true h
theorem okN_f {x : Int} (h : okN x = false) : ¬ (-1000000000000 ≤ x ∧ x ≤ 1000000000000) := of_decide_eq_false h

/-- The place of an index, from a number on; -1 where the index isn't right. -/
def placeGo : Int → List Int → List Int → Int
  | a, n :: s, i :: x => if 0 ≤ i ∧ i ≤ n - 1 then placeGo (a * n + i) s x else -1
  | a, _, _ => a
def placeOf (s x : List Int) : Int := if szOf s ≥ 0 ∧ x.length = s.length then placeGo 0 s x else -1
theorem szOf_nonneg {l : List Int} (h : szOf l ≥ 0) : ¬ 3 < l.length ∧ inR l = true ∧ prod l ≤ 300 ∧ szOf l = prod l := by
  unfold szOf at h ⊢
  by_cases h1 : 3 < l.length
  · rw [if_pos h1] at h; omega
  · rw [if_neg h1] at h ⊢
    by_cases h2 : inR l = true
    · rw [if_pos h2] at h ⊢
      by_cases h3 : prod l > 300
      · rw [if_pos h3] at h; omega
      · rw [if_neg h3] at h ⊢; exact ⟨h1, h2, by omega, rfl⟩
    · rw [if_neg h2] at h; omega
def pb : Nat → Int
  | 0 => 0
  | n + 1 => 300 * pb n + 300
theorem pb_le {n : Nat} (h : n ≤ 3) : pb n ≤ 28000000 := by
  match n, h with
  | 0, _ => decide
  | 1, _ => decide
  | 2, _ => decide
  | 3, _ => decide

def arrayOk (s d : List Int) : Bool := decide ((d.length : Int) = szOf s) && d.all okN
theorem arrayOk_t {s d : List Int} (h : arrayOk s d = true) : (d.length : Int) = szOf s ∧ (∀ x ∈ d, okN x = true) ∧ d.length ≤ 300 ∧ s.length ≤ 3 ∧ szOf s ≥ 0 := by
  unfold arrayOk at h
  rw [Bool.and_eq_true, decide_eq_true_iff, List.all_eq_true] at h
  have h1 := szOf_ge s
  have h2 : szOf s ≥ 0 := by omega
  exact ⟨h.1, h.2, by omega, by have := (szOf_nonneg h2).1; omega, h2⟩

/-- The number at a place of a row that goes round and round; nought where it is empty. -/
def cyc (d : List Int) (i : Nat) : Int := if d.length = 0 then 0 else rd d ((i % d.length : Nat) : Int)
def rep (d : List Int) : Nat → List Int
  | 0 => []
  | n + 1 => rep d n ++ [cyc d n]
theorem rep_length (d : List Int) : ∀ n, (rep d n).length = n
  | 0 => rfl
  | n + 1 => by simp [rep, rep_length d n]
theorem rep_get (d : List Int) : ∀ (n i : Nat) (h : i < (rep d n).length), (rep d n)[i] = cyc d i
  | 0, i, h => by simp [rep] at h
  | n + 1, i, h => by
    rw [rep_length] at h
    have hl := rep_length d n
    simp only [rep]
    by_cases hi : i < n
    · rw [List.getElem_append_left (by omega)]; exact rep_get d n i (by omega)
    · have e : i = n := by omega
      subst e
      rw [List.getElem_append_right (by omega)]; simp [hl]
theorem rep_self (d : List Int) : rep d d.length = d := by
  apply List.ext_getElem (rep_length d _)
  intro i h1 h2
  rw [rep_get]
  unfold cyc
  rw [if_neg (by omega), Nat.mod_eq_of_lt h2, rdn d i h2]
theorem cyc_ok (d : List Int) (h : d.all okN = true) (i : Nat) : okN (cyc d i) = true := by
  unfold cyc
  by_cases h0 : d.length = 0
  · rw [if_pos h0]; decide
  · have hlt : i % d.length < d.length := Nat.mod_lt _ (by omega)
    rw [if_neg h0, rdn d _ hlt]; exact List.all_eq_true.1 h _ (List.getElem_mem hlt)
theorem rep_ok (d : List Int) (h : d.all okN = true) : ∀ n, (rep d n).all okN = true
  | 0 => rfl
  | n + 1 => by rw [rep, List.all_append, rep_ok d h n]; simp [cyc_ok d h n]
def reshape (a b c d : List Int) : List Int × List Int × Int :=
  if arrayOk a b = true ∧ arrayOk c d = true then
    (if a.length > 1 then ([], [], 4) else if b.any (fun x => decide (x < 0)) = true then ([], [], 2) else if szOf b ≥ 0 then (b, rep d (szOf b).toNat, 0) else ([], [], 6))
  else ([], [], 1)
theorem reshape_len (a b c d : List Int) (hb : b.length ≤ 1048576) : (reshape a b c d).1.length ≤ 1048576 ∧ (reshape a b c d).2.1.length ≤ 1048576 := by
  have := szOf_ge b
  unfold reshape
  repeat' split
  all_goals exact ⟨by first | exact hb | simp, by first | (rw [rep_length]; omega) | simp⟩

theorem impl_within_eq (a b c : Int) : impl_within.f a b c = some (decide (b ≤ a ∧ a ≤ c)) := by
  unfold impl_within.f
  by_cases h : a ≥ b
  · rw [if_pos h]; congr 1; rw [Bool.eq_iff_iff, decide_eq_true_iff, decide_eq_true_iff]; omega
  · rw [if_neg h]; congr 1; symm; rw [decide_eq_false_iff_not]; omega

theorem impl_SizeOf_l0 (l : List Int) (hl : ¬ 3 < l.length) (d : Nat) : ∀ (i : Nat), i + d = l.length → inR (l.take i) = true → Ev (fun k => impl_SizeOf.l0 k (prod (l.take i)) l (l.length : Int) (i : Int)) (if inR l = true then (if prod l > 300 then -1 else prod l) else -1) := by
  induction d with
  | zero =>
    intro i hi hr
    have e : l.take i = l := List.take_of_length_le (by omega)
    rw [e] at hr ⊢
    rw [if_pos hr]
    refine Ev.step (f := fun _ => some (if prod l > 300 then -1 else prod l)) (fun k => ?_) (Ev.now _)
    simp only [impl_SizeOf.l0]; rw [if_neg (by omega)]
    by_cases h : prod l > 300
    · rw [if_pos h, if_pos h]
    · rw [if_neg h, if_neg h]
  | succ d ih =>
    intro i hi hr
    have hlt : i < l.length := by omega
    by_cases hx : 0 ≤ l[i] ∧ l[i] ≤ 300
    · have hr' := (inR_take_succ l i hlt).2 ⟨hr, hx⟩
      refine Ev.step (f := fun k => impl_SizeOf.l0 k (prod (l.take (i + 1))) l (l.length : Int) ((i + 1 : Nat) : Int)) (fun k => ?_) (ih (i + 1) (by omega) hr')
      simp only [impl_SizeOf.l0]
      rw [if_pos (by omega), if_pos (by omega), if_pos (by omega), impl_within_eq, rdn l i hlt, decide_eq_true hx]
      simp only [Option.bind_some, if_true]
      have hp := prod_take_le l (i + 1) hl hr'
      rw [w64s i (by omega), ← prod_take_succ l i hlt, w64 (by omega) (by omega)]
    · rw [if_neg (by rw [inR_not i hlt hx]; simp)]
      refine Ev.step (f := fun _ => some (-1)) (fun k => ?_) (Ev.now _)
      simp only [impl_SizeOf.l0]
      rw [if_pos (by omega), if_pos (by omega), if_pos (by omega), impl_within_eq, rdn l i hlt, decide_eq_false hx]
      rfl
theorem impl_SizeOf_ev (l : List Int) : Ev (fun k => impl_SizeOf.f k l) (szOf l) := by
  unfold impl_SizeOf.f szOf
  by_cases h : 3 < l.length
  · rw [if_pos h]; exact evPos (by omega) (Ev.now _)
  · rw [if_neg h]
    refine evNeg (by omega) ?_
    have := impl_SizeOf_l0 l h l.length 0 (by omega) (by simp [inR])
    simpa only [List.take_zero, prod, Int.ofNat_zero, Int.natCast_zero] using this

theorem impl_NumOk_eq (a : Int) : impl_NumOk.f a = some (okN a) := by
  unfold impl_NumOk.f; rw [impl_within_eq]; rfl

def p_ArrayOk1 (x : Int) : Bool := !okN x
theorem lit_ArrayOk1_eq (x : Int) : impl_ArrayOk_lit1.f x = some (p_ArrayOk1 x) := by
  unfold impl_ArrayOk_lit1.f; rw [impl_NumOk_eq]; rfl

theorem slices_IndexFunc_ArrayOk1_l0 (l : List Int) (hl : l.length ≤ 1048576) (d : Nat) : ∀ (i : Nat), i + d = l.length → (l.take i).all (fun x => !p_ArrayOk1 x) = true → ∃ r, Ev (fun k => slices_IndexFunc_ArrayOk1.l0 k l (l.length : Int) (i : Int)) r ∧ decide (r ≥ 0) = l.any p_ArrayOk1 := by
  induction d with
  | zero =>
    intro i hi ht
    refine ⟨-1, Ev.step (f := fun _ => some (-1)) (fun k => ?_) (Ev.now _), ?_⟩
    · simp only [slices_IndexFunc_ArrayOk1.l0]; rw [if_neg (by omega)]
    · have e : l.take i = l := List.take_of_length_le (by omega)
      rw [e] at ht
      symm; rw [show decide ((-1 : Int) ≥ 0) = false by decide, List.any_eq_false]
      intro x hx
      have := List.all_eq_true.1 ht x hx
      simpa using this
  | succ d ih =>
    intro i hi ht
    have hlt : i < l.length := by omega
    by_cases hx : p_ArrayOk1 l[i] = true
    · refine ⟨(i : Int), Ev.step (f := fun _ => some (i : Int)) (fun k => ?_) (Ev.now _), ?_⟩
      · simp only [slices_IndexFunc_ArrayOk1.l0]
        rw [if_pos (by omega), if_pos (by omega), if_pos (by omega), lit_ArrayOk1_eq, rdn l i hlt]; simp only [Option.bind_some]; rw [if_pos hx]
      · rw [decide_eq_true (by omega)]; symm; rw [List.any_eq_true]; exact ⟨_, List.getElem_mem hlt, hx⟩
    · obtain ⟨r, hr, h2⟩ := ih (i + 1) (by omega) (by rw [List.take_succ_eq_append_getElem hlt, List.all_append, ht]; simp [hx])
      refine ⟨r, Ev.step (f := fun k => slices_IndexFunc_ArrayOk1.l0 k l (l.length : Int) ((i + 1 : Nat) : Int)) (fun k => ?_) hr, h2⟩
      simp only [slices_IndexFunc_ArrayOk1.l0]
      rw [if_pos (by omega), if_pos (by omega), if_pos (by omega), lit_ArrayOk1_eq, rdn l i hlt]; simp only [Option.bind_some]; rw [if_neg hx, w64s i (by omega)]
theorem slices_ContainsFunc_ArrayOk1_ev (l : List Int) (hl : l.length ≤ 1048576) : Ev (fun k => slices_ContainsFunc_ArrayOk1.f k l) (l.any p_ArrayOk1) := by
  unfold slices_ContainsFunc_ArrayOk1.f slices_IndexFunc_ArrayOk1.f
  obtain ⟨r, hr, h⟩ := slices_IndexFunc_ArrayOk1_l0 l hl l.length 0 (by omega) (by simp)
  exact Ev.bind hr (evSome h)

theorem all_okN (d : List Int) : (!d.any p_ArrayOk1) = d.all okN := by
  rw [List.not_any_eq_all_not]; congr 1; funext x; simp [p_ArrayOk1]
theorem impl_ArrayOk_ev (s d : List Int) (hd : d.length ≤ 1048576) : Ev (fun k => impl_ArrayOk.f k s d) (arrayOk s d) := by
  unfold impl_ArrayOk.f arrayOk
  refine Ev.bind (impl_SizeOf_ev s) ?_
  by_cases h : (d.length : Int) = szOf s
  · exact evPos h (Ev.bind (slices_ContainsFunc_ArrayOk1_ev d hd) (evSome (by rw [all_okN, decide_eq_true h]; rfl)))
  · exact evNeg h (evSome (by rw [decide_eq_false h]; rfl))

theorem impl_ShapeOk_ev (l : List Int) : Ev (fun k => impl_ShapeOk.f k l) (decide (szOf l ≥ 0)) := by
  unfold impl_ShapeOk.f
  exact Ev.bind (impl_SizeOf_ev l) (Ev.now _)

def p_Reshape1 (x : Int) : Bool := decide (x < 0)
theorem lit_Reshape1_eq (x : Int) : impl_Reshape_lit1.f x = some (p_Reshape1 x) := rfl

theorem slices_IndexFunc_Reshape1_l0 (l : List Int) (hl : l.length ≤ 1048576) (d : Nat) : ∀ (i : Nat), i + d = l.length → (l.take i).all (fun x => !p_Reshape1 x) = true → ∃ r, Ev (fun k => slices_IndexFunc_Reshape1.l0 k l (l.length : Int) (i : Int)) r ∧ decide (r ≥ 0) = l.any p_Reshape1 := by
  induction d with
  | zero =>
    intro i hi ht
    refine ⟨-1, Ev.step (f := fun _ => some (-1)) (fun k => ?_) (Ev.now _), ?_⟩
    · simp only [slices_IndexFunc_Reshape1.l0]; rw [if_neg (by omega)]
    · have e : l.take i = l := List.take_of_length_le (by omega)
      rw [e] at ht
      symm; rw [show decide ((-1 : Int) ≥ 0) = false by decide, List.any_eq_false]
      intro x hx
      have := List.all_eq_true.1 ht x hx
      simpa using this
  | succ d ih =>
    intro i hi ht
    have hlt : i < l.length := by omega
    by_cases hx : p_Reshape1 l[i] = true
    · refine ⟨(i : Int), Ev.step (f := fun _ => some (i : Int)) (fun k => ?_) (Ev.now _), ?_⟩
      · simp only [slices_IndexFunc_Reshape1.l0]
        rw [if_pos (by omega), if_pos (by omega), if_pos (by omega), lit_Reshape1_eq, rdn l i hlt]; simp only [Option.bind_some]; rw [if_pos hx]
      · rw [decide_eq_true (by omega)]; symm; rw [List.any_eq_true]; exact ⟨_, List.getElem_mem hlt, hx⟩
    · obtain ⟨r, hr, h2⟩ := ih (i + 1) (by omega) (by rw [List.take_succ_eq_append_getElem hlt, List.all_append, ht]; simp [hx])
      refine ⟨r, Ev.step (f := fun k => slices_IndexFunc_Reshape1.l0 k l (l.length : Int) ((i + 1 : Nat) : Int)) (fun k => ?_) hr, h2⟩
      simp only [slices_IndexFunc_Reshape1.l0]
      rw [if_pos (by omega), if_pos (by omega), if_pos (by omega), lit_Reshape1_eq, rdn l i hlt]; simp only [Option.bind_some]; rw [if_neg hx, w64s i (by omega)]
theorem slices_ContainsFunc_Reshape1_ev (l : List Int) (hl : l.length ≤ 1048576) : Ev (fun k => slices_ContainsFunc_Reshape1.f k l) (l.any p_Reshape1) := by
  unfold slices_ContainsFunc_Reshape1.f slices_IndexFunc_Reshape1.f
  obtain ⟨r, hr, h⟩ := slices_IndexFunc_Reshape1_l0 l hl l.length 0 (by omega) (by simp)
  exact Ev.bind hr (evSome h)

theorem impl_Reshape_l0 (a b c d s : List Int) (hd : d.length ≤ 300) (m : Nat) (hm : szOf b = (m : Int)) (hm3 : m ≤ 300) (n : Nat) : ∀ (i : Nat), i + n = m → Ev (fun k => impl_Reshape.l0 k (i : Int) a b c d s (rep d i)) (s, rep d m, 0) := by
  induction n with
  | zero =>
    intro i hi
    have e : i = m := by omega
    subst e
    refine Ev.step (fun k => by rw [impl_Reshape.l0]) ?_
    refine Ev.bind (impl_SizeOf_ev b) ?_
    exact evNeg (by omega) (Ev.now _)
  | succ n ih =>
    intro i hi
    have hl := rep_length d i
    have ih' := ih (i + 1) (by omega)
    refine Ev.step (fun k => by rw [impl_Reshape.l0]) ?_
    refine Ev.bind (impl_SizeOf_ev b) ?_
    refine evPos (by omega) ?_
    rw [w64s i (by omega)]
    by_cases h0 : d.length = 0
    · refine evNeg (by omega) (evPos (by omega) ?_)
      rw [rep, cyc, if_pos h0] at ih'; exact ih'
    · have e1 : Int.tmod (i : Int) (d.length : Int) = ((i % d.length : Nat) : Int) := by rw [Int.tmod_eq_emod_of_nonneg (by omega)]; rfl
      have hlt : i % d.length < d.length := Nat.mod_lt _ (by omega)
      rw [e1]
      refine evPos (by omega) (evNeg (by omega) (evPos (by omega) (evPos (by omega) (evPos (by omega) ?_))))
      rw [rep, cyc, if_neg h0] at ih'; exact ih'
theorem impl_Reshape_ev (a b c d : List Int) (hb : b.length ≤ 1048576) (hd : d.length ≤ 1048576) : Ev (fun k => impl_Reshape.f k a b c d) (reshape a b c d) := by
  unfold impl_Reshape.f reshape
  refine Ev.bind (impl_ArrayOk_ev a b hb) ?_
  have hbad : Ev (fun k => impl_Reshape.j0 k true a b c d) ([], [], 1) := Ev.step (fun k => by rw [impl_Reshape.j0]) (evPos rfl (Ev.now _))
  by_cases h1 : arrayOk a b = true
  · refine evPos h1 (Ev.bind (impl_ArrayOk_ev c d hd) ?_)
    by_cases h2 : arrayOk c d = true
    · rw [h2]
      refine evEq ?_ (if_pos (And.intro h1 rfl)).symm
      refine Ev.step (fun k => by rw [impl_Reshape.j0]) (evNeg (by simp) ?_)
      by_cases h3 : a.length > 1
      · exact evEq (evPos (by omega) (Ev.now _)) (if_pos h3).symm
      refine evEq (evNeg (by omega) (Ev.bind (slices_ContainsFunc_Reshape1_ev b hb) ?_)) (if_neg h3).symm
      by_cases h4 : b.any (fun x => decide (x < 0)) = true
      · exact evEq (evPos h4 (Ev.now _)) (if_pos h4).symm
      refine evEq (evNeg h4 (Ev.bind (impl_ShapeOk_ev b) ?_)) (if_neg h4).symm
      by_cases h5 : szOf b ≥ 0
      · have hz := szOf_ge b
        have hd3 := (arrayOk_t h2).2.2.1
        refine evEq (evPos (by simpa using h5) (evPos (by rw [List.length_nil]; omega) ?_)) (if_pos h5).symm
        exact impl_Reshape_l0 a b c d b hd3 (szOf b).toNat (by omega) (by omega) (szOf b).toNat 0 (by omega)
      · exact evEq (evNeg (by simpa using h5) (Ev.now _)) (if_neg h5).symm
    · rw [Bool.eq_false_iff.2 h2]
      exact evEq hbad (if_neg (fun hh : _ ∧ _ => absurd hh.2 (by simp))).symm
  · exact evEq (evNeg h1 hbad) (if_neg (fun hh : _ ∧ _ => h1 hh.1)).symm

theorem spec_l1In_eq (a b c : Int) : spec_l1In.f a b c = some (decide (b ≤ a ∧ a ≤ c)) := by
  unfold spec_l1In.f
  by_cases h : a ≥ b
  · rw [if_pos h]; congr 1; rw [Bool.eq_iff_iff, decide_eq_true_iff, decide_eq_true_iff]; omega
  · rw [if_neg h]; congr 1; symm; rw [decide_eq_false_iff_not]; omega

theorem spec_SizeOf_l1 (l : List Int) (hl : ¬ 3 < l.length) (z : Bool) (hr : inR l = true) (hz : z = true → prod l = 0) (d : Nat) : ∀ (i : Nat), i + d = l.length → Ev (fun k => spec_SizeOf.l1 k l z (prod (l.take i)) (i : Int)) (if prod l > 300 then -1 else prod l) := by
  induction d with
  | zero =>
    intro i hi
    have e : l.take i = l := List.take_of_length_le (by omega)
    rw [e]
    refine Ev.step (f := fun _ => some (if prod l > 300 then -1 else prod l)) (fun k => ?_) (Ev.now _)
    simp only [spec_SizeOf.l1]; rw [if_neg (by omega)]
    by_cases h : prod l > 300
    · rw [if_pos h, if_pos h]
      rw [if_neg (by intro hh; have := hz hh; omega)]
    · rw [if_neg h, if_neg h]
  | succ d ih =>
    intro i hi
    have hlt : i < l.length := by omega
    have hr' := inR_take (i + 1) hr
    refine Ev.step (f := fun k => spec_SizeOf.l1 k l z (prod (l.take (i + 1))) ((i + 1 : Nat) : Int)) (fun k => ?_) (ih (i + 1) (by omega))
    simp only [spec_SizeOf.l1]
    have hp := prod_take_le l (i + 1) hl hr'
    rw [if_pos (by omega), if_pos (by omega), rdn l i hlt, w64s i (by omega), ← prod_take_succ l i hlt, w64 (by omega) (by omega)]
theorem prod_zero (l : List Int) (h : l.any (· == 0) = true) : prod l = 0 := by
  induction l with
  | nil => simp at h
  | cons a l ih =>
    rw [List.any_cons, Bool.or_eq_true] at h
    rcases h with h | h
    · have : a = 0 := by simpa using h
      rw [prod, this, Int.zero_mul]
    · rw [prod, ih h, Int.mul_zero]
theorem spec_SizeOf_l0 (l : List Int) (hl : ¬ 3 < l.length) (d : Nat) : ∀ (i : Nat) (z : Bool), i + d = l.length → inR (l.take i) = true → z = (l.take i).any (· == 0) → Ev (fun k => spec_SizeOf.l0 k l z (i : Int)) (if inR l = true then (if prod l > 300 then -1 else prod l) else -1) := by
  induction d with
  | zero =>
    intro i z hi hr hz
    have e : l.take i = l := List.take_of_length_le (by omega)
    rw [e] at hr hz
    rw [if_pos hr]
    refine Ev.step (f := fun k => spec_SizeOf.l1 k l z 1 0) (fun k => ?_) ?_
    · simp only [spec_SizeOf.l0]; rw [if_neg (by omega)]
    · exact spec_SizeOf_l1 l hl z hr (fun h => prod_zero l (by rw [← hz]; exact h)) l.length 0 (by omega)
  | succ d ih =>
    intro i z hi hr hz
    have hlt : i < l.length := by omega
    by_cases hx : 0 ≤ l[i] ∧ l[i] ≤ 300
    · have hr' := (inR_take_succ l i hlt).2 ⟨hr, hx⟩
      refine Ev.step (f := fun k => spec_SizeOf.l0 k l ((l.take (i + 1)).any (· == 0)) ((i + 1 : Nat) : Int)) (fun k => ?_) (ih (i + 1) _ (by omega) hr' rfl)
      simp only [spec_SizeOf.l0]
      rw [if_pos (by omega), if_pos (by omega), spec_l1In_eq, rdn l i hlt, decide_eq_true hx]
      simp only [Option.bind_some, if_true]
      rw [w64s i (by omega), List.take_succ_eq_append_getElem hlt, List.any_append, ← hz]
      cases z with
      | true => simp
      | false => simp
    · rw [if_neg (by rw [inR_not i hlt hx]; simp)]
      refine Ev.step (f := fun _ => some (-1)) (fun k => ?_) (Ev.now _)
      simp only [spec_SizeOf.l0]
      rw [if_pos (by omega), if_pos (by omega), spec_l1In_eq, rdn l i hlt, decide_eq_false hx]
      rfl
theorem spec_SizeOf_ev (l : List Int) : Ev (fun k => spec_SizeOf.f k l) (szOf l) := by
  unfold spec_SizeOf.f szOf
  by_cases h : 3 < l.length
  · rw [if_pos h]; exact evPos (by omega) (Ev.now _)
  · rw [if_neg h]
    refine evNeg (by omega) ?_
    exact spec_SizeOf_l0 l h l.length 0 false (by omega) (by simp [inR]) (by simp)

theorem spec_NumOk_eq (a : Int) : spec_NumOk.f a = some (okN a) := by
  unfold spec_NumOk.f; rw [spec_l1In_eq]; rfl

theorem spec_ArrayOk_l0 (s l : List Int) (hl : l.length ≤ 1048576) (d : Nat) : ∀ (i : Nat), i + d = l.length → (l.take i).all okN = true → Ev (fun k => spec_ArrayOk.l0 k (i : Int) s l) (l.all okN) := by
  induction d with
  | zero =>
    intro i hi ht
    refine Ev.step (f := fun _ => some true) (fun k => ?_) (evSome ?_)
    · simp only [spec_ArrayOk.l0]; rw [if_neg (by omega)]
    · rw [List.take_of_length_le (by omega)] at ht; exact ht.symm
  | succ d ih =>
    intro i hi ht
    have hlt : i < l.length := by omega
    by_cases hx : okN l[i] = true
    · refine Ev.step (f := fun k => spec_ArrayOk.l0 k ((i + 1 : Nat) : Int) s l) (fun k => ?_) (ih (i + 1) (by omega) (by rw [List.take_succ_eq_append_getElem hlt, List.all_append, ht]; simp [hx]))
      simp only [spec_ArrayOk.l0]
      rw [if_pos (by omega), if_pos (by omega), spec_NumOk_eq, rdn l i hlt]; simp only [Option.bind_some]; rw [if_pos hx, w64s i (by omega)]
    · refine Ev.step (f := fun _ => some false) (fun k => ?_) (evSome ?_)
      · simp only [spec_ArrayOk.l0]
        rw [if_pos (by omega), if_pos (by omega), spec_NumOk_eq, rdn l i hlt]; simp only [Option.bind_some]; rw [if_neg hx]
      · symm; rw [List.all_eq_false]; exact ⟨_, List.getElem_mem hlt, hx⟩
theorem spec_ArrayOk_ev (s d : List Int) (hd : d.length ≤ 1048576) : Ev (fun k => spec_ArrayOk.f k s d) (arrayOk s d) := by
  unfold spec_ArrayOk.f arrayOk
  refine Ev.bind (spec_SizeOf_ev s) ?_
  by_cases h : szOf s = (d.length : Int)
  · refine evPos h (evEq (spec_ArrayOk_l0 s d hd d.length 0 (by omega) (by simp)) ?_)
    rw [decide_eq_true h.symm]; rfl
  · exact evNeg h (evSome (by rw [decide_eq_false (fun e => h e.symm)]; rfl))

theorem spec_Reshape_l1 (c d s : List Int) (hd : d.length ≤ 300) (m : Nat) (hm3 : m ≤ 300) (n : Nat) : ∀ (i : Nat), i + n = m → Ev (fun k => spec_Reshape.l1 k (m : Int) (i : Int) c d s (rep d i)) (s, rep d m, 0) := by
  induction n with
  | zero =>
    intro i hi
    have e : i = m := by omega
    subst e
    refine Ev.step (fun k => by rw [spec_Reshape.l1]) ?_
    exact evNeg (by omega) (Ev.now _)
  | succ n ih =>
    intro i hi
    have hl := rep_length d i
    have ih' := ih (i + 1) (by omega)
    refine Ev.step (fun k => by rw [spec_Reshape.l1]) ?_
    refine evPos (by omega) ?_
    rw [w64s i (by omega)]
    by_cases h0 : d.length = 0
    · refine evNeg (by omega) (evPos (by omega) ?_)
      rw [rep, cyc, if_pos h0] at ih'; exact ih'
    · have e1 : Int.tmod (i : Int) (d.length : Int) = ((i % d.length : Nat) : Int) := by rw [Int.tmod_eq_emod_of_nonneg (by omega)]; rfl
      have hlt : i % d.length < d.length := Nat.mod_lt _ (by omega)
      rw [e1]
      refine evPos (by omega) (evNeg (by omega) (evPos (by omega) (evPos (by omega) (evPos (by omega) ?_))))
      rw [rep, cyc, if_neg h0] at ih'; exact ih'
theorem spec_Reshape_l0 (a b c d : List Int) (hb : b.length ≤ 1048576) (hd : d.length ≤ 300) (n : Nat) : ∀ (i : Nat), i + n = b.length → Ev (fun k => spec_Reshape.l0 k (i : Int) a b c d) (if (b.drop i).any (fun x => decide (x < 0)) = true then ([], [], 2) else if szOf b ≥ 0 then (b, rep d (szOf b).toNat, 0) else ([], [], 6)) := by
  induction n with
  | zero =>
    intro i hi
    have hz := szOf_ge b
    rw [List.drop_of_length_le (by omega), if_neg (by simp)]
    refine Ev.step (fun k => by rw [spec_Reshape.l0]) ?_
    simp only [Option.bind_some, List.length_nil, List.nil_append, Nat.zero_add]
    refine evNeg (by omega) (Ev.bind (spec_SizeOf_ev b) ?_)
    by_cases h : szOf b ≥ 0
    · rw [if_pos h]
      have e : szOf b = ((szOf b).toNat : Int) := by omega
      have hw := spec_Reshape_l1 c d b hd (szOf b).toNat (by omega) (szOf b).toNat 0 (by omega)
      rw [← e] at hw
      exact evNeg (by omega) (evPos (by omega) hw)
    · rw [if_neg h]
      exact evPos (by omega) (Ev.now _)
  | succ n ih =>
    intro i hi
    have hlt : i < b.length := by omega
    have ih' := ih (i + 1) (by omega)
    rw [List.drop_eq_getElem_cons hlt, List.any_cons]
    refine Ev.step (fun k => by rw [spec_Reshape.l0]) ?_
    refine evPos (by omega) (evPos (by omega) ?_)
    rw [rdn b i hlt, w64s i (by omega)]
    by_cases h : b[i] < 0
    · exact evPos h (evSome (by rw [if_pos (by simp [h])]))
    · refine evNeg h (evEq ih' ?_)
      rw [show decide (b[i] < 0) = false by simpa using h, Bool.false_or]
theorem spec_Reshape_ev (a b c d : List Int) (hb : b.length ≤ 1048576) (hd : d.length ≤ 1048576) : Ev (fun k => spec_Reshape.f k a b c d) (reshape a b c d) := by
  unfold spec_Reshape.f reshape
  refine Ev.bind (spec_ArrayOk_ev a b hb) ?_
  have hbad : Ev (fun k => spec_Reshape.j0 k true a b c d) ([], [], 1) := Ev.step (fun k => by rw [spec_Reshape.j0]) (evPos rfl (Ev.now _))
  by_cases h1 : arrayOk a b = true
  · refine evPos h1 (Ev.bind (spec_ArrayOk_ev c d hd) ?_)
    by_cases h2 : arrayOk c d = true
    · rw [h2]
      have hd3 := (arrayOk_t h2).2.2.1
      refine evEq ?_ (if_pos (And.intro h1 rfl)).symm
      refine Ev.step (fun k => by rw [spec_Reshape.j0]) (evNeg (by simp) ?_)
      by_cases h3 : a.length > 1
      · exact evEq (evPos (by omega) (Ev.now _)) (if_pos h3).symm
      · refine evEq (evNeg (by omega) (spec_Reshape_l0 a b c d hb hd3 b.length 0 (by omega))) ?_
        rw [if_neg h3, List.drop_zero]
    · rw [Bool.eq_false_iff.2 h2]
      exact evEq hbad (if_neg (fun hh : _ ∧ _ => absurd hh.2 (by simp))).symm
  · exact evEq (evNeg h1 hbad) (if_neg (fun hh : _ ∧ _ => h1 hh.1)).symm

def vec (l : List Int) : List Int × List Int := ([(l.length : Int)], l)

theorem impl_vector_eq (l : List Int) (hl : l.length ≤ 1048576) : impl_vector.f l = some (vec l) := by
  unfold impl_vector.f
  rw [if_pos (by rw [List.length_nil]; omega)]; rfl

def ravel (s d : List Int) : List Int × List Int × Int := if arrayOk s d = true then ((vec d).1, (vec d).2, 0) else ([], [], 1)
def shapeOf (s d : List Int) : List Int × List Int × Int := if arrayOk s d = true then ((vec s).1, (vec s).2, 0) else ([], [], 1)
def vectorOf (l : List Int) : List Int × List Int × Bool := if arrayOk (vec l).1 (vec l).2 = true then ((vec l).1, (vec l).2, true) else ([], [], false)
theorem ravel_len (s d : List Int) (hd : d.length ≤ 1048576) : (ravel s d).1.length ≤ 1048576 ∧ (ravel s d).2.1.length ≤ 1048576 := by
  unfold ravel vec; split <;> simp <;> omega
theorem shapeOf_len (s d : List Int) (hs : s.length ≤ 1048576) : (shapeOf s d).1.length ≤ 1048576 ∧ (shapeOf s d).2.1.length ≤ 1048576 := by
  unfold shapeOf vec; split <;> simp <;> omega
theorem vectorOf_len (l : List Int) (hl : l.length ≤ 1048576) : (vectorOf l).1.length ≤ 1048576 ∧ (vectorOf l).2.1.length ≤ 1048576 := by
  unfold vectorOf vec; split <;> simp <;> omega

theorem impl_ShapeOf_ev (s d : List Int) (hs : s.length ≤ 1048576) (hd : d.length ≤ 1048576) : Ev (fun k => impl_ShapeOf.f k s d) (shapeOf s d) := by
  unfold impl_ShapeOf.f shapeOf
  refine Ev.bind (impl_ArrayOk_ev s d hd) ?_
  by_cases h : arrayOk s d = true
  · exact evEq (evPos h (evBind0 (impl_vector_eq s hs) (Ev.now _))) (if_pos h).symm
  · exact evEq (evNeg h (Ev.now _)) (if_neg h).symm

theorem laws_sameInts_l0 (l m : List Int) (hl : l.length ≤ 35184372088832) (hm : l.length = m.length) (d : Nat) : ∀ (i : Nat), i + d = l.length → Ev (fun k => laws_sameInts.l0 k l m (i : Int)) (decide (l.drop i = m.drop i)) := by
  induction d with
  | zero =>
    intro i hi
    refine Ev.step (f := fun _ => some (decide (l.drop i = m.drop i))) (fun k => ?_) (Ev.now _)
    simp only [laws_sameInts.l0]
    rw [if_neg (by omega), List.drop_of_length_le (by omega), List.drop_of_length_le (by omega)]; simp
  | succ d ih =>
    intro i hi
    have hlt : i < l.length := by omega
    have hlt' : i < m.length := by omega
    have e1 := List.drop_eq_getElem_cons hlt
    have e2 := List.drop_eq_getElem_cons hlt'
    by_cases hx : l[i] = m[i]
    · refine Ev.step (f := fun k => laws_sameInts.l0 k l m ((i + 1 : Nat) : Int)) (fun k => ?_) (evEq (ih (i + 1) (by omega)) ?_)
      · simp only [laws_sameInts.l0]
        rw [if_pos (by omega), if_pos (by omega), if_pos (by omega), rdn l i hlt, rdn m i hlt', if_pos hx, w64s i (by omega)]
      · rw [e1, e2, hx]; simp only [List.cons.injEq, true_and]
    · refine Ev.step (f := fun _ => some false) (fun k => ?_) (evSome ?_)
      · simp only [laws_sameInts.l0]
        rw [if_pos (by omega), if_pos (by omega), if_pos (by omega), rdn l i hlt, rdn m i hlt', if_neg hx]
      · rw [e1, e2]; symm; rw [decide_eq_false_iff_not]; intro h; exact hx (List.cons.inj h).1
theorem laws_sameInts_ev (l m : List Int) (hl : l.length ≤ 35184372088832) : Ev (fun k => laws_sameInts.f k l m) (decide (l = m)) := by
  unfold laws_sameInts.f
  by_cases h : l.length = m.length
  · refine evPos (by omega) ?_
    exact laws_sameInts_l0 l m hl h l.length 0 (by omega)
  · refine evNeg (by omega) (evSome ?_)
    symm; rw [decide_eq_false_iff_not]; intro e; exact h (by rw [e])
theorem laws_sameInts_rfl (l : List Int) (hl : l.length ≤ 35184372088832) : Ev (fun k => laws_sameInts.f k l l) true := evEq (laws_sameInts_ev l l hl) (by simp)

theorem laws_sameArray_rfl (a b : List Int) (ha : a.length ≤ 1048576) (hb : b.length ≤ 1048576) : Ev (fun k => laws_sameArray.f k a b a b) true := by
  unfold laws_sameArray.f
  exact Ev.bind (laws_sameInts_rfl a (by omega)) (evPos rfl (Ev.bind (laws_sameInts_rfl b (by omega)) (Ev.now _)))

theorem laws_big_eq (l : List Int) : laws_big.f l = some (decide ((l.length : Int) > 1048576)) := rfl

theorem and255 (x : Int) : 0 ≤ Go.bits .and .i64 x 255 ∧ Go.bits .and .i64 x 255 ≤ 255 := by
  have h : Go.bits .and .i64 x 255 = IntKind.i64.wrap (((BitVec.ofInt 64 x).toNat &&& 255 : Nat) : Int) := by
    simp only [Go.bits, BitVec.toNat_and]; rfl
  have h2 : (BitVec.ofInt 64 x).toNat &&& 255 ≤ 255 := Nat.and_le_right
  rw [h, IntKind.wrap_i64]; omega
/-- A cursor's place lies in its bytes. -/
def Cu (c : List Int) (i : Int) : Prop := 0 ≤ i ∧ i ≤ c.length
theorem spec_l1Byte_dr (c : List Int) (i h : Int) (hc : Cu c i) (hl : c.length ≤ 1048576) : ∃ x i' h', spec_l1Byte.f c i h = some (x, i', h') ∧ (0 ≤ x ∧ x ≤ 255) ∧ Cu c i' := by
  obtain ⟨h0, h1⟩ := hc
  unfold spec_l1Byte.f
  by_cases h2 : i < (c.length : Int)
  · rw [if_pos h2, if_pos h0, w64 (x := i + 1) (by omega) (by omega)]
    exact ⟨_, _, _, rfl, and255 _, by omega, by omega⟩
  · rw [if_neg h2]
    exact ⟨_, _, _, rfl, and255 _, h0, h1⟩
theorem spec_l1Below_dr (c : List Int) (i h n : Int) (hc : Cu c i) (hl : c.length ≤ 1048576) : ∃ x i' h', spec_l1Below.f c i h n = some (x, i', h') ∧ (0 ≤ x ∧ (x < n ∨ n ≤ 0 ∧ x = 0)) ∧ Cu c i' := by
  unfold spec_l1Below.f
  by_cases h1 : n ≤ 0
  · rw [if_pos h1]; exact ⟨_, _, _, rfl, ⟨by omega, .inr ⟨h1, rfl⟩⟩, hc⟩
  · rw [if_neg h1]
    by_cases h2 : n ≤ 256
    · obtain ⟨x, i', h', e, hx, hc'⟩ := spec_l1Byte_dr c i h hc hl
      rw [if_pos h2, e, Option.bind_some, if_neg (by omega)]
      have h3 := Int.tmod_eq_emod_of_nonneg (b := n) hx.1
      have h4 := Int.emod_nonneg x (show n ≠ 0 by omega)
      have h5 := Int.emod_lt_of_pos x (show 0 < n by omega)
      exact ⟨_, _, _, rfl, ⟨by rw [h3]; exact h4, .inl (by rw [h3]; exact h5)⟩, hc'⟩
    · obtain ⟨x, i1, h1', e1, hx, hc1⟩ := spec_l1Byte_dr c i h hc hl
      obtain ⟨y, i2, h2', e2, hy, hc2⟩ := spec_l1Byte_dr c i1 h1' hc1 hl
      obtain ⟨z, i3, h3', e3, hz, hc3⟩ := spec_l1Byte_dr c i2 h2' hc2 hl
      obtain ⟨u, i4, h4', e4, hu, hc4⟩ := spec_l1Byte_dr c i3 h3' hc3 hl
      rw [if_neg h2, e1, Option.bind_some]; dsimp only
      rw [e2, Option.bind_some]; dsimp only
      rw [e3, Option.bind_some]; dsimp only
      rw [e4, Option.bind_some]; dsimp only
      rw [if_neg (by omega), w64 (x := x * 16777216) (by omega) (by omega), w64 (x := y * 65536) (by omega) (by omega), w64 (x := x * 16777216 + y * 65536) (by omega) (by omega), w64 (x := z * 256) (by omega) (by omega), w64 (x := x * 16777216 + y * 65536 + z * 256) (by omega) (by omega), w64 (x := x * 16777216 + y * 65536 + z * 256 + u) (by omega) (by omega)]
      generalize hq : x * 16777216 + y * 65536 + z * 256 + u = q
      have h3 := Int.tmod_eq_emod_of_nonneg (b := n) (show 0 ≤ q by omega)
      have h4 := Int.emod_nonneg q (show n ≠ 0 by omega)
      have h5 := Int.emod_lt_of_pos q (show 0 < n by omega)
      exact ⟨_, _, _, rfl, ⟨by rw [h3]; exact h4, .inl (by rw [h3]; exact h5)⟩, hc4⟩

theorem spec_l1New_l0 (c : List Int) (hl : c.length ≤ 1048576) (d : Nat) : ∀ (i : Nat) (h : Int), i + d = c.length → ∃ h', Ev (fun k => spec_l1New.l0 k c h (i : Int)) (c, 0, h') := by
  induction d with
  | zero =>
    intro i h hi
    refine ⟨h, Ev.step (f := fun _ => some (c, 0, h)) (fun k => ?_) (Ev.now _)⟩
    simp only [spec_l1New.l0]; rw [if_neg (by omega)]
  | succ d ih =>
    intro i h hi
    by_cases h4 : (i : Int) < 4000
    · obtain ⟨h', e⟩ := ih (i + 1) (Go.bits .and .i64 (wrap64 ((wrap64 ((wrap64 (h * 131)) + (wrap64 (rd c (i : Int))))) + 7)) 1073741823) (by omega)
      refine ⟨h', Ev.step (fun k => ?_) e⟩
      simp only [spec_l1New.l0]
      rw [if_pos (by omega), if_pos h4, if_pos (by omega), w64s i (by omega)]
    · refine ⟨h, Ev.step (f := fun _ => some (c, 0, h)) (fun k => ?_) (Ev.now _)⟩
      simp only [spec_l1New.l0]; rw [if_pos (by omega), if_neg h4]
theorem spec_l1New_dr (c : List Int) (hl : c.length ≤ 1048576) : ∃ h, Ev (fun k => spec_l1New.f k c) (c, 0, h) := by
  unfold spec_l1New.f
  exact spec_l1New_l0 c hl c.length 0 _ (by omega)
theorem cu0 (c : List Int) : Cu c 0 := ⟨Int.le_refl 0, by omega⟩

theorem spec_l1PickInt_dr (c : List Int) (i h : Int) (l : List Int) (hn : 0 < l.length) (hc : Cu c i) (hl : c.length ≤ 1048576) : ∃ x i' h', spec_l1PickInt.f c i h l = some (x, i', h') ∧ x ∈ l ∧ Cu c i' := by
  obtain ⟨x, i', h', e, hx, hc'⟩ := spec_l1Below_dr c i h (l.length : Int) hc hl
  have h1 : x < (l.length : Int) := by omega
  have h2 : x.toNat < l.length := by omega
  unfold spec_l1PickInt.f; rw [e, Option.bind_some]; dsimp only
  rw [if_pos hx.1, if_pos h1]
  refine ⟨_, _, _, rfl, ?_, hc'⟩
  simp only [rd, List.getD_eq_getElem?_getD, List.getElem?_eq_getElem h2, Option.getD_some]
  exact List.getElem_mem h2

theorem spec_l2DrawRight_dr (c : List Int) (i h : Int) (hc : Cu c i) (hl : c.length ≤ 1048576) : ∃ s i' h', Ev (fun k => spec_l2DrawRight.f k c i h) (s, i', h') ∧ (s.length ≤ 3 ∧ ∀ x ∈ s, 0 ≤ x ∧ x ≤ 5) ∧ Cu c i' := by
  unfold spec_l2DrawRight.f
  obtain ⟨x, i1, h1, e1, hx, hc1⟩ := spec_l1Below_dr c i h 5 hc hl
  by_cases x0 : x = 0
  · exact ⟨_, _, _, evBind0 e1 (evPos x0 (Ev.now _)), ⟨by simp, by simp⟩, hc1⟩
  · have hj : ∀ b, ∃ s i' h', Ev (fun k => spec_l2DrawRight.j0 k x b c i1 h1) (s, i', h') ∧ (s.length ≤ 3 ∧ ∀ x ∈ s, 0 ≤ x ∧ x ≤ 5) ∧ Cu c i' := by
      intro b
      cases b with
      | true =>
        obtain ⟨y, i2, h2, e2, hy, hc2⟩ := spec_l1Below_dr c i1 h1 6 hc1 hl
        refine ⟨_, _, _, Ev.step (fun k => by rw [spec_l2DrawRight.j0]) (evPos rfl (evBind0 e2 (Ev.now _))), ?_, hc2⟩
        dsimp only
        refine ⟨by simp, fun z hz => ?_⟩
        rw [List.mem_singleton] at hz; omega
      | false =>
        by_cases x3 : x = 3
        · obtain ⟨y, i2, h2, e2, hy, hc2⟩ := spec_l1Below_dr c i1 h1 4 hc1 hl
          obtain ⟨z, i3, h3, e3, hz, hc3⟩ := spec_l1Below_dr c i2 h2 3 hc2 hl
          refine ⟨[y, wrap64 (1 + z)], i3, h3, Ev.step (fun k => by rw [spec_l2DrawRight.j0]) (evNeg (by simp) (evPos x3 (evBind0 e2 ?_))), ?_, hc3⟩
          · exact evBind0 (a := (z, i3, h3)) e3 (Ev.now ([y, wrap64 (1 + z)], i3, h3))
          rw [w64 (x := 1 + z) (by omega) (by omega)]
          refine ⟨by simp, fun u hu => ?_⟩
          simp only [List.mem_cons, List.not_mem_nil, or_false] at hu; omega
        · obtain ⟨y, i2, h2, e2, hy, hc2⟩ := spec_l1Below_dr c i1 h1 3 hc1 hl
          obtain ⟨z, i3, h3, e3, hz, hc3⟩ := spec_l1Below_dr c i2 h2 2 hc2 hl
          obtain ⟨v, i4, h4, e4, hv, hc4⟩ := spec_l1Below_dr c i3 h3 4 hc3 hl
          refine ⟨[wrap64 (1 + y), wrap64 (1 + z), v], i4, h4, Ev.step (fun k => by rw [spec_l2DrawRight.j0]) (evNeg (by simp) (evNeg x3 (evBind0 e2 ?_))), ?_, hc4⟩
          · exact evBind0 (a := (z, i3, h3)) e3 (evBind0 (a := (v, i4, h4)) e4 (Ev.now ([wrap64 (1 + y), wrap64 (1 + z), v], i4, h4)))
          rw [w64 (x := 1 + y) (by omega) (by omega), w64 (x := 1 + z) (by omega) (by omega)]
          refine ⟨by simp, fun u hu => ?_⟩
          simp only [List.mem_cons, List.not_mem_nil, or_false] at hu; omega
    by_cases x1 : x = 1
    · obtain ⟨s, i', h', e, r⟩ := hj (x == 1)
      exact ⟨s, i', h', evBind0 e1 (evNeg x0 (evPos x1 e)), r⟩
    · obtain ⟨s, i', h', e, r⟩ := hj (x == 2)
      exact ⟨s, i', h', evBind0 e1 (evNeg x0 (evNeg x1 e)), r⟩
theorem spec_l2Draw_dr (c : List Int) (i h : Int) (hc : Cu c i) (hl : c.length ≤ 1048576) : ∃ s i' h', Ev (fun k => spec_l2Draw.f k c i h) (s, i', h') ∧ (s.length ≤ 4 ∧ ∀ x ∈ s, -1 ≤ x ∧ x ≤ 301) ∧ Cu c i' := by
  unfold spec_l2Draw.f
  obtain ⟨s, i1, h1, e1, ⟨hs, hx⟩, hc1⟩ := spec_l2DrawRight_dr c i h hc hl
  obtain ⟨x, i2, h2, e2, _, hc2⟩ := spec_l1Below_dr c i1 h1 20 hc1 hl
  by_cases x0 : x = 0
  · obtain ⟨y, i3, h3, e3, hy, hc3⟩ := spec_l1PickInt_dr c i2 h2 [-1, 0, 300, 301] (by decide) hc2 hl
    refine ⟨_, _, _, Ev.bind e1 (evBind0 e2 (evPos x0 (evBind0 e3 (evPos (by dsimp only; omega) (Ev.now _))))), ?_, hc3⟩
    dsimp only
    refine ⟨by rw [List.length_append]; simp; omega, fun u hu => ?_⟩
    rw [List.mem_append, List.mem_singleton] at hu
    simp only [List.mem_cons, List.not_mem_nil, or_false] at hy
    rcases hu with hu | hu
    · have := hx u hu; omega
    · omega
  by_cases x1 : x = 1
  · exact ⟨_, _, _, Ev.bind e1 (evBind0 e2 (evNeg x0 (evPos x1 (Ev.now _)))), ⟨by simp, by simp⟩, hc2⟩
  by_cases x2 : x = 2
  · obtain ⟨y, i3, h3, e3, hy, hc3⟩ := spec_l1PickInt_dr c i2 h2 [17, 20, 15, 300] (by decide) hc2 hl
    obtain ⟨z, i4, h4, e4, hz, hc4⟩ := spec_l1PickInt_dr c i3 h3 [15, 20, 16, 0] (by decide) hc3 hl
    refine ⟨_, _, _, Ev.bind e1 (evBind0 e2 (evNeg x0 (evNeg x1 (evPos x2 (evBind0 e3 (evBind0 e4 (Ev.now _))))))), ?_, hc4⟩
    dsimp only
    refine ⟨by simp, fun u hu => ?_⟩
    simp only [List.mem_cons, List.not_mem_nil, or_false] at hu hy hz; omega
  · exact ⟨_, _, _, Ev.bind e1 (evBind0 e2 (evNeg x0 (evNeg x1 (evNeg x2 (Ev.now _))))), ⟨by dsimp only; omega, fun u hu => by have := hx u hu; omega⟩, hc2⟩

theorem spec_l1Once_dr (c : List Int) (i h n : Int) (hc : Cu c i) (hl : c.length ≤ 1048576) : ∃ x i' h', spec_l1Once.f c i h n = some (x, i', h') ∧ Cu c i' := by
  obtain ⟨x, i', h', e, _, hc'⟩ := spec_l1Below_dr c i h n hc hl
  unfold spec_l1Once.f; rw [e, Option.bind_some]
  exact ⟨_, _, _, rfl, hc'⟩

theorem spec_l1DrawNum_dr (c : List Int) (i h : Int) (hc : Cu c i) (hl : c.length ≤ 1048576) : ∃ x i' h', spec_l1DrawNum.f c i h = some (x, i', h') ∧ (-1000000000000 ≤ x ∧ x ≤ 1000000000000) ∧ Cu c i' := by
  obtain ⟨b, i1, h1, e1, hc1⟩ := spec_l1Once_dr c i h 12 hc hl
  unfold spec_l1DrawNum.f; rw [e1, Option.bind_some]; dsimp only
  cases b with
  | true =>
    obtain ⟨x, i2, h2, e2, hx, hc2⟩ := spec_l1PickInt_dr c i1 h1 [1000000000000, -1000000000000, 999999999999, 1000000, -1000000, 1000001, 999999999999] (by decide) hc1 hl
    rw [if_pos rfl, e2, Option.bind_some]
    refine ⟨_, _, _, rfl, ?_, hc2⟩
    simp only [List.mem_cons, List.not_mem_nil, or_false] at hx
    dsimp only
    omega
  | false =>
    obtain ⟨x, i2, h2, e2, hx, hc2⟩ := spec_l1Below_dr c i1 h1 20 hc1 hl
    rw [if_neg (by simp), e2, Option.bind_some]
    refine ⟨_, _, _, rfl, ?_, hc2⟩
    dsimp only
    rw [w64 (by omega) (by omega)]; omega

theorem spec_l1DrawRaw_dr (c : List Int) (i h : Int) (hc : Cu c i) (hl : c.length ≤ 1048576) : ∃ x i' h', spec_l1DrawRaw.f c i h = some (x, i', h') ∧ (-9223372036854775808 ≤ x ∧ x ≤ 9223372036854775807) ∧ Cu c i' := by
  obtain ⟨b, i1, h1, e1, hc1⟩ := spec_l1Once_dr c i h 15 hc hl
  unfold spec_l1DrawRaw.f; rw [e1, Option.bind_some]; dsimp only
  cases b with
  | true =>
    obtain ⟨x, i2, h2, e2, hx, hc2⟩ := spec_l1PickInt_dr c i1 h1 [1000000000001, -1000000000001, 9223372036854775807, -9223372036854775808] (by decide) hc1 hl
    rw [if_pos rfl, e2, Option.bind_some]
    refine ⟨_, _, _, rfl, ?_, hc2⟩
    simp only [List.mem_cons, List.not_mem_nil, or_false] at hx
    dsimp only
    omega
  | false =>
    obtain ⟨x, i2, h2, e2, hx, hc2⟩ := spec_l1DrawNum_dr c i1 h1 hc1 hl
    rw [if_neg (by simp), e2, Option.bind_some]
    refine ⟨_, _, _, rfl, ?_, hc2⟩
    dsimp only
    omega

theorem spec_l3Fill_l0 (c s : List Int) (hl : c.length ≤ 1048576) (n : Nat) : ∀ (j : Nat) (d : List Int) (i h : Int), szOf s - j ≤ n → d.length = j → j ≤ 300 → (∀ x ∈ d, -1000000000000 ≤ x ∧ x ≤ 1000000000000) → Cu c i → ∃ e i' h', Ev (fun k => spec_l3Fill.l0 k s (j : Int) c i h s d) (s, e, i', h') ∧ (e.length ≤ 300 ∧ ∀ x ∈ e, -1000000000000 ≤ x ∧ x ≤ 1000000000000) ∧ Cu c i' := by
  have hz := szOf_ge s
  induction n with
  | zero =>
    intro j d i h hn hd hj hx hc
    refine ⟨d, i, h, Ev.step (fun k => by rw [spec_l3Fill.l0]) ?_, ⟨by omega, hx⟩, hc⟩
    refine Ev.bind (spec_SizeOf_ev s) ?_
    exact evNeg (by omega) (Ev.now _)
  | succ n ih =>
    intro j d i h hn hd hj hx hc
    by_cases hlt : (j : Int) < szOf s
    · obtain ⟨y, i1, h1, e1, hy, hc1⟩ := spec_l1DrawNum_dr c i h hc hl
      obtain ⟨e, i2, h2, ee, he, hc2⟩ := ih (j + 1) (d ++ [y]) i1 h1 (by omega) (by simp [hd]) (by omega) (fun x hx' => by
        rcases List.mem_append.1 hx' with h | h
        · exact hx x h
        · rw [List.mem_singleton] at h; omega) hc1
      refine ⟨e, i2, h2, Ev.step (fun k => by rw [spec_l3Fill.l0]) ?_, he, hc2⟩
      refine Ev.bind (spec_SizeOf_ev s) (evPos hlt (evBind0 e1 ?_))
      dsimp only
      rw [w64s j (by omega)]
      exact evPos (by omega) ee
    · refine ⟨d, i, h, Ev.step (fun k => by rw [spec_l3Fill.l0]) ?_, ⟨by omega, hx⟩, hc⟩
      exact Ev.bind (spec_SizeOf_ev s) (evNeg hlt (Ev.now _))
theorem spec_l3Fill_dr (c : List Int) (i h : Int) (s : List Int) (hs : s.length ≤ 100) (hc : Cu c i) (hl : c.length ≤ 1048576) : ∃ e i' h', Ev (fun k => spec_l3Fill.f k c i h s) (s, e, i', h') ∧ (e.length ≤ 300 ∧ ∀ x ∈ e, -1000000000000 ≤ x ∧ x ≤ 1000000000000) ∧ Cu c i' := by
  unfold spec_l3Fill.f
  have hz := szOf_ge s
  obtain ⟨e, i1, h1, ee, he, hc1⟩ := spec_l3Fill_l0 c s hl 300 0 [] i h (by omega) rfl (by omega) (by simp) hc
  exact ⟨e, i1, h1, evLet (evPos (by rw [List.length_nil]; omega) (by simpa using ee)), he, hc1⟩
theorem spec_l3DrawRight_dr (c : List Int) (i h : Int) (hc : Cu c i) (hl : c.length ≤ 1048576) : ∃ s d i' h', Ev (fun k => spec_l3DrawRight.f k c i h) (s, d, i', h') ∧ (s.length ≤ 3 ∧ d.length ≤ 300 ∧ ∀ x ∈ d, -1000000000000 ≤ x ∧ x ≤ 1000000000000) ∧ Cu c i' := by
  unfold spec_l3DrawRight.f
  obtain ⟨s, i1, h1, e1, ⟨hs, _⟩, hc1⟩ := spec_l2DrawRight_dr c i h hc hl
  obtain ⟨d, i2, h2, e2, hd, hc2⟩ := spec_l3Fill_dr c i1 h1 s (by omega) hc1 hl
  exact ⟨s, d, i2, h2, Ev.bind e1 (Ev.bind e2 (Ev.now _)), ⟨hs, hd⟩, hc2⟩
theorem spec_l3Draw_dr (c : List Int) (i h : Int) (hc : Cu c i) (hl : c.length ≤ 1048576) : ∃ s d i' h', Ev (fun k => spec_l3Draw.f k c i h) (s, d, i', h') ∧ (s.length ≤ 4 ∧ d.length ≤ 301 ∧ ∀ x ∈ d, -9223372036854775808 ≤ x ∧ x ≤ 9223372036854775807) ∧ Cu c i' := by
  unfold spec_l3Draw.f
  obtain ⟨s, d, i1, h1, e1, ⟨hs, hd, hx⟩, hc1⟩ := spec_l3DrawRight_dr c i h hc hl
  obtain ⟨x, i2, h2, e2, hx2, hc2⟩ := spec_l1Below_dr c i1 h1 20 hc1 hl
  have hw : ∀ x ∈ d, -9223372036854775808 ≤ x ∧ x ≤ 9223372036854775807 := fun x h => by have := hx x h; omega
  by_cases x0 : x = 0
  · refine ⟨s, d ++ [1], i2, h2, Ev.bind e1 (evBind0 e2 ?_), ⟨by omega, by simp; omega, fun y hy => ?_⟩, hc2⟩
    · dsimp only
      exact evPos x0 (evPos (by omega) (Ev.now _))
    · rcases List.mem_append.1 hy with h | h
      · exact hw y h
      · rw [List.mem_singleton] at h; omega
  by_cases x1 : x = 1
  · obtain ⟨s2, i3, h3, e3, ⟨hs2, _⟩, hc3⟩ := spec_l2Draw_dr c i2 h2 hc2 hl
    refine ⟨s2, d, i3, h3, Ev.bind e1 (evBind0 e2 ?_), ⟨hs2, by omega, hw⟩, hc3⟩
    dsimp only
    exact evNeg x0 (evPos x1 (Ev.bind e3 (Ev.now _)))
  by_cases x2 : x = 2
  · by_cases hd0 : (d.length : Int) > 0
    · obtain ⟨p, i3, h3, e3, hp, hc3⟩ := spec_l1Below_dr c i2 h2 (d.length : Int) hc2 hl
      obtain ⟨y, i4, h4, e4, hy, hc4⟩ := spec_l1DrawRaw_dr c i3 h3 hc3 hl
      refine ⟨s, d.set p.toNat y, i4, h4, Ev.bind e1 (evBind0 e2 ?_), ⟨by omega, by rw [List.length_set]; omega, fun z hz => ?_⟩, hc4⟩
      · dsimp only
        refine evNeg x0 (evNeg x1 (evPos x2 (evPos hd0 (evBind0 e3 ?_))))
        dsimp only
        refine evBind0 e4 ?_
        dsimp only
        exact evPos hp.1 (evPos (by omega) (Ev.now _))
      · rcases List.mem_or_eq_of_mem_set hz with h | h
        · exact hw z h
        · omega
    · refine ⟨s, d, i2, h2, Ev.bind e1 (evBind0 e2 ?_), ⟨by omega, by omega, hw⟩, hc2⟩
      dsimp only
      exact evNeg x0 (evNeg x1 (evPos x2 (evNeg hd0 (Ev.now _))))
  by_cases x3 : x = 3
  · obtain ⟨p, i3, h3, e3, hp, hc3⟩ := spec_l1Below_dr c i2 h2 2 hc2 hl
    have hq : wrap64 (300 + p) = 300 + p := w64 (by omega) (by omega)
    refine ⟨[300], List.replicate (300 + p).toNat 0, i3, h3, Ev.bind e1 (evBind0 e2 ?_), ⟨by simp, by rw [List.length_replicate]; omega, fun z hz => ?_⟩, hc3⟩
    · dsimp only
      refine evNeg x0 (evNeg x1 (evNeg x2 (evPos x3 (evBind0 e3 ?_))))
      dsimp only
      rw [hq]
      exact evPos (by omega) (evPos (by omega) (Ev.now _))
    · have := List.eq_of_mem_replicate hz; omega
  · refine ⟨s, d, i2, h2, Ev.bind e1 (evBind0 e2 ?_), ⟨by omega, by omega, hw⟩, hc2⟩
    dsimp only
    exact evNeg x0 (evNeg x1 (evNeg x2 (evNeg x3 (Ev.now _))))

theorem spec_l3Vector_eq (l : List Int) (hl : l.length ≤ 1048576) : spec_l3Vector.f l = some (vec l) := by
  unfold spec_l3Vector.f
  rw [Option.bind_some, if_pos (by rw [List.length_nil]; omega)]; rfl

theorem spec_l3Scalar_eq (x : Int) : spec_l3Scalar.f x = some ([], [x]) := rfl

theorem spec_DrawReshape_dr (c : List Int) (hl : c.length ≤ 1048576) : ∃ a0 a1 b0 b1, Ev (fun k => spec_DrawReshape.f k c) (a0, a1, b0, b1) ∧ (a0.length ≤ 4 ∧ a1.length ≤ 301) ∧ (b0.length ≤ 4 ∧ b1.length ≤ 301) := by
  unfold spec_DrawReshape.f
  obtain ⟨h0, e0⟩ := spec_l1New_dr c hl
  obtain ⟨s, i1, h1, e1, ⟨hs, _⟩, hc1⟩ := spec_l2DrawRight_dr c 0 h0 (cu0 c) hl
  obtain ⟨x, i2, h2, e2, _, hc2⟩ := spec_l1Below_dr c i1 h1 12 hc1 hl
  by_cases x0 : x = 0
  · obtain ⟨a0, a1, i3, h3, e3, ⟨p1, p2, _⟩, hc3⟩ := spec_l3Draw_dr c i2 h2 hc2 hl
    obtain ⟨b0, b1, i4, h4, e4, ⟨q1, q2, _⟩, _⟩ := spec_l3Draw_dr c i3 h3 hc3 hl
    exact ⟨a0, a1, b0, b1, Ev.bind e0 (Ev.bind e1 (evBind0 (spec_l3Vector_eq s (by omega)) (evBind0 e2 (evPos x0 (Ev.bind e3 (Ev.bind e4 (Ev.now _))))))), ⟨p1, p2⟩, ⟨q1, q2⟩⟩
  by_cases x1 : x = 1
  · obtain ⟨y, i3, h3, e3, ⟨p1, _⟩, hc3⟩ := spec_l2Draw_dr c i2 h2 hc2 hl
    obtain ⟨b0, b1, i4, h4, e4, ⟨q1, q2, _⟩, _⟩ := spec_l3Draw_dr c i3 h3 hc3 hl
    exact ⟨(vec y).1, (vec y).2, b0, b1, Ev.bind e0 (Ev.bind e1 (evBind0 (spec_l3Vector_eq s (by omega)) (evBind0 e2 (evNeg x0 (evPos x1 (Ev.bind e3 (evBind0 (spec_l3Vector_eq y (by omega)) (Ev.bind e4 (Ev.now _))))))))), ⟨by simp [vec], by show y.length ≤ _; omega⟩, ⟨q1, q2⟩⟩
  by_cases x2 : x = 2
  · obtain ⟨y, i3, h3, e3, _, hc3⟩ := spec_l1Below_dr c i2 h2 9 hc2 hl
    obtain ⟨b0, b1, i4, h4, e4, ⟨q1, q2, _⟩, _⟩ := spec_l3Draw_dr c i3 h3 hc3 hl
    exact ⟨[], [y], b0, b1, Ev.bind e0 (Ev.bind e1 (evBind0 (spec_l3Vector_eq s (by omega)) (evBind0 e2 (evNeg x0 (evNeg x1 (evPos x2 (evBind0 e3 (evBind0 (spec_l3Scalar_eq y) (Ev.bind e4 (Ev.now _)))))))))), ⟨by simp, by simp⟩, ⟨q1, q2⟩⟩
  · obtain ⟨b0, b1, i4, h4, e4, ⟨q1, q2, _⟩, _⟩ := spec_l3Draw_dr c i2 h2 hc2 hl
    exact ⟨(vec s).1, (vec s).2, b0, b1, Ev.bind e0 (Ev.bind e1 (evBind0 (spec_l3Vector_eq s (by omega)) (evBind0 e2 (evNeg x0 (evNeg x1 (evNeg x2 (Ev.bind e4 (Ev.now _)))))))), ⟨by simp [vec], by show s.length ≤ _; omega⟩, ⟨q1, q2⟩⟩

/-- A shape, as an array of its own. -/
theorem arrayOk_vec {l : List Int} (hl : l.length ≤ 300) (h : l.all okN = true) : arrayOk (vec l).1 (vec l).2 = true := by
  unfold arrayOk vec
  rw [Bool.and_eq_true, decide_eq_true_iff]
  refine ⟨?_, h⟩
  have h1 : inR [(l.length : Int)] = true := by simp [inR]; omega
  unfold szOf
  rw [if_neg (by simp), if_pos h1]
  simp only [prod, Int.mul_one]
  rw [if_neg (by omega)]
theorem shape_okN {s : List Int} (h : szOf s ≥ 0) : s.all okN = true ∧ s.any (fun x => decide (x < 0)) = false := by
  have h1 := (szOf_nonneg h).2.1
  have h2 := List.all_eq_true.1 h1
  refine ⟨List.all_eq_true.2 (fun x hx => decide_eq_true ?_), List.any_eq_false.2 (fun x hx => ?_)⟩
  · have := of_decide_eq_true (h2 x hx); omega
  · have := of_decide_eq_true (h2 x hx); simp; omega
theorem reshape_self {s d : List Int} (h : arrayOk s d = true) : reshape (vec s).1 (vec s).2 s d = (s, d, 0) := by
  obtain ⟨h1, h2, h3, h4, h5⟩ := arrayOk_t h
  obtain ⟨h7, h8⟩ := shape_okN h5
  unfold reshape
  rw [if_pos ⟨arrayOk_vec (by omega) h7, h⟩, if_neg (by simp [vec]), if_neg (by show ¬ (s.any (fun x => decide (x < 0)) = true); rw [h8]; simp)]
  show (if szOf s ≥ 0 then (s, rep d (szOf s).toNat, 0) else ([], [], 6)) = (s, d, 0)
  rw [if_pos h5, show (szOf s).toNat = d.length by omega, rep_self]
theorem FnReshaped_end (a b c d : List Int) (i : Int) (hb : b.length ≤ 301) (h5 : szOf b ≥ 0) (hd : d.all okN = true) : Ev (fun k => laws_FnReshaped.j2 k i false a b c d b (rep d (szOf b).toNat)) true := by
  have hz := szOf_ge b
  have hl := rep_length d (szOf b).toNat
  have hok : arrayOk b (rep d (szOf b).toNat) = true := by
    unfold arrayOk
    rw [Bool.and_eq_true, decide_eq_true_iff]
    exact ⟨by omega, rep_ok d hd _⟩
  refine Ev.step (fun k => by rw [laws_FnReshaped.j2]) (evNeg (by simp) ?_)
  exact Ev.bind (laws_sameInts_rfl b (by omega)) (evPos rfl (Ev.bind (impl_ArrayOk_ev b _ (by omega)) (evSome hok)))
theorem FnReshaped_l0 (a b c d : List Int) (hb : b.length ≤ 301) (h5 : szOf b ≥ 0) (hd : d.all okN = true) (n : Nat) : ∀ i : Nat, i + n = (szOf b).toNat → Ev (fun k => laws_FnReshaped.l0 k (i : Int) a b c d b (rep d (szOf b).toNat)) true := by
  have hz := szOf_ge b
  have hl := rep_length d (szOf b).toNat
  induction n with
  | zero =>
    intro i hi
    refine Ev.step (fun k => by rw [laws_FnReshaped.l0]) (evNeg (by omega) ?_)
    exact FnReshaped_end a b c d i hb h5 hd
  | succ n ih =>
    intro i hi
    refine Ev.step (fun k => by rw [laws_FnReshaped.l0]) (evPos (by omega) ?_)
    by_cases h0 : d.length = 0
    · rw [show decide ((d.length : Int) > 0) = false by rw [decide_eq_false_iff_not]; omega]
      exact FnReshaped_end a b c d i hb h5 hd
    · rw [show decide ((d.length : Int) > 0) = true by rw [decide_eq_true_iff]; omega]
      have hlt : i % d.length < d.length := Nat.mod_lt _ (by omega)
      have e1 : Int.tmod (i : Int) (d.length : Int) = ((i % d.length : Nat) : Int) := by rw [Int.tmod_eq_emod_of_nonneg (by omega)]; rfl
      have e2 : rd (rep d (szOf b).toNat) (i : Int) = rd d ((i % d.length : Nat) : Int) := by
        rw [rdn _ i (by omega), rep_get, cyc, if_neg h0]
      refine Ev.step (fun k => by rw [laws_FnReshaped.j2]) ?_
      rw [e1, e2, w64s i (by omega)]
      exact evPos rfl (evPos (by omega) (evPos (by omega) (evNeg (by omega) (evPos (by omega) (evPos (by omega) (evPos rfl (ih (i + 1) (by omega))))))))
theorem FnReshaped_j0 (a b c d : List Int) (hb : b.length ≤ 301) : Ev (fun k => laws_FnReshaped.j0 k (reshape a b c d).2.2 a b c d (reshape a b c d).1 (reshape a b c d).2.1) true := by
  refine Ev.step (fun k => by rw [laws_FnReshaped.j0]) ?_
  unfold reshape
  by_cases h : arrayOk a b = true ∧ arrayOk c d = true
  · rw [if_pos h]
    by_cases h2 : a.length > 1
    · rw [if_pos h2]; exact evNeg (by decide) (evSome rfl)
    rw [if_neg h2]
    by_cases h3 : b.any (fun x => decide (x < 0)) = true
    · rw [if_pos h3]; exact evNeg (by decide) (evSome rfl)
    rw [if_neg h3]
    by_cases h4 : szOf b ≥ 0
    · rw [if_pos h4]
      have h6 : d.all okN = true := by have := h.2; unfold arrayOk at this; rw [Bool.and_eq_true] at this; exact this.2
      exact evPos rfl (FnReshaped_l0 a b c d hb h4 h6 (szOf b).toNat 0 (by omega))
    · rw [if_neg h4]; exact evNeg (by decide) (evSome rfl)
  · rw [if_neg h]; exact evNeg (by decide) (evSome rfl)
theorem FnReshaped : laws_FnReshaped.Pure := by
  intro l _ _ _
  suffices hE_ : Ev (fun k => laws_FnReshaped.f k l) true from Exists.elim hE_ (fun K_ h_ => ⟨K_, h_ K_ (Nat.le_refl _)⟩)
  unfold laws_FnReshaped.f
  refine evBind0 (laws_big_eq l) ?_
  by_cases hb : (l.length : Int) > 1048576
  · exact evPos (decide_eq_true hb) (Ev.now _)
  refine evNeg (by simpa using hb) ?_
  have hl : l.length ≤ 1048576 := by omega
  obtain ⟨a, b, c, d, e, ⟨ha, hb'⟩, ⟨hc, hd⟩⟩ := spec_DrawReshape_dr l hl
  refine Ev.bind e (Ev.bind (impl_Reshape_ev a b c d (by omega) (by omega)) (Ev.bind (spec_Reshape_ev a b c d (by omega) (by omega)) (evPos rfl (Ev.bind (spec_ArrayOk_ev c d (by omega)) ?_))))
  dsimp only
  have hj := FnReshaped_j0 a b c d hb'
  by_cases h : arrayOk c d = true
  · have e2 : shapeOf c d = ((vec c).1, (vec c).2, 0) := by unfold shapeOf; rw [if_pos h]
    refine evPos h (Ev.bind (impl_ShapeOf_ev c d (by omega) (by omega)) ?_)
    rw [e2]
    refine Ev.bind (impl_Reshape_ev (vec c).1 (vec c).2 c d (by show c.length ≤ _; omega) (by omega)) ?_
    rw [reshape_self h]
    exact evPos rfl (Ev.bind (laws_sameArray_rfl c d (by omega) (by omega)) (evPos rfl hj))
  · exact evNeg h hj

end Go.Proofs.Ytcnbajdnlkcjjaa.Pure
