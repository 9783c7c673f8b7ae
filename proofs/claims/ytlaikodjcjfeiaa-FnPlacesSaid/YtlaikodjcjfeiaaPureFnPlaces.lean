/- The law FnPlaces answers true for each code: an index of a drawn shape has the place whose index it is. Conditions: those of the row's own reading alone. -/
import Derived.Test.YtlaikodjcjfeiaaPFnPlacesx
namespace Go.Proofs.Ytlaikodjcjfeiaa.Pure
open Go.RowKit Go.Proofs.Ytlaikodjcjfeiaa.PFnPlaces Go.Proofs.YtlaikodjcjfeiaaW.PrintWords Go.Proofs.YtlaikodjcjfeiaaW.PrintLast Go.Proofs.YtlaikodjcjfeiaaW.PrintMore
set_option linter.unusedVariables false
set_option linter.unusedSimpArgs false

section
variable {α β : Type}
theorem evPos {c : Prop} [Decidable c] {g h : Nat → Option α} {r : α} (hc : c) (e : Ev g r) : Ev (fun k => if c then g k else h k) r := by
  simpa only [if_pos hc] using e
theorem evNeg {c : Prop} [Decidable c] {g h : Nat → Option α} {r : α} (hc : ¬ c) (e : Ev h r) : Ev (fun k => if c then g k else h k) r := by
  simpa only [if_neg hc] using e
theorem evBind0 {o : Option α} {f : Nat → α → Option β} {a : α} {r : β} (h : o = some a) (k : Ev (fun n => f n a) r) : Ev (fun n => o.bind (f n)) r := by
  subst h; simpa only [Option.bind_some] using k
theorem evLet {a : α} {f : Nat → α → Option β} {r : β} (k : Ev (fun n => f n a) r) : Ev (fun n => (some a).bind (f n)) r := by
  simpa only [Option.bind_some] using k
theorem evEq {g : Nat → Option α} {r r' : α} (h : Ev g r) (e : r = r') : Ev g r' := e ▸ h
theorem evSomeEq {o : Option α} {r : α} (e : o = some r) : Ev (fun _ => o) r := e ▸ Ev.now r
theorem evSome {a r : α} (e : a = r) : Ev (fun _ => some a) r := e ▸ Ev.now a
end
theorem w64 {x : Int} (h : -9223372036854775808 ≤ x) (h' : x ≤ 9223372036854775807) : wrap64 x = x := by unfold wrap64; omega
theorem w64s (i : Nat) (h : i < 4611686018427387904) : wrap64 ((i : Int) + 1) = ((i + 1 : Nat) : Int) := by rw [w64] <;> omega
theorem rdn (l : List Int) (i : Nat) (h : i < l.length) : rd l (i : Int) = l[i] := by
  simp only [rd, Int.toNat_natCast, List.getD_eq_getElem?_getD, List.getElem?_eq_getElem h, Option.getD_some]
theorem wfI {x : Int} (h : (Lit.int .i64 x).wf = true) : -9223372036854775808 ≤ x ∧ x ≤ 9223372036854775807 := by
  have h2 : (decide (IntKind.i64.min ≤ x) && decide (x ≤ IntKind.i64.max)) = true := h
  rw [Bool.and_eq_true, decide_eq_true_iff, decide_eq_true_iff] at h2
  have e1 : IntKind.i64.min = -9223372036854775808 := by decide
  have e2 : IntKind.i64.max = 9223372036854775807 := by decide
  rw [e1, e2] at h2
  exact h2

/-- The product of a list. -/
def prod : List Int → Int
  | [] => 1
  | x :: l => x * prod l
/-- May these stand in a shape? -/
def inR (l : List Int) : Bool := l.all fun n => decide (0 ≤ n ∧ n ≤ 300)
/-- How many numbers an array of a shape has; -1 where the shape isn't right. -/
def szOf (l : List Int) : Int := if 3 < l.length then -1 else if inR l = true then (if prod l > 300 then -1 else prod l) else -1
theorem mul300 {a b : Int} {m n : Int} (h0 : 0 ≤ a) (h1 : a ≤ m) (h2 : 0 ≤ b) (h3 : b ≤ n) : 0 ≤ a * b ∧ a * b ≤ m * n :=
  ⟨Int.mul_nonneg h0 h2, Int.mul_le_mul h1 h3 h2 (Int.le_trans h0 h1)⟩
theorem shape_cases {l : List Int} (h : ¬ 3 < l.length) : l = [] ∨ (∃ a, l = [a]) ∨ (∃ a b, l = [a, b]) ∨ ∃ a b c, l = [a, b, c] := by
  match l, h with
  | [], _ => exact .inl rfl
  | [a], _ => exact .inr (.inl ⟨a, rfl⟩)
  | [a, b], _ => exact .inr (.inr (.inl ⟨a, b, rfl⟩))
  | [a, b, c], _ => exact .inr (.inr (.inr ⟨a, b, c, rfl⟩))
  | _ :: _ :: _ :: _ :: _, h => exact absurd (by simp) h
theorem inR_cons {a : Int} {l : List Int} : inR (a :: l) = true ↔ (0 ≤ a ∧ a ≤ 300) ∧ inR l = true := by
  simp [inR]
/-- A part of a shape's product stays small. -/
def pw : Nat → Int
  | 0 => 1
  | n + 1 => 300 * pw n
theorem prod_le : ∀ (l : List Int), inR l = true → 0 ≤ prod l ∧ prod l ≤ pw l.length
  | [], _ => by simp [prod, pw]
  | a :: l, h => by
    obtain ⟨⟨h0, h1⟩, h2⟩ := inR_cons.1 h
    obtain ⟨h3, h4⟩ := prod_le l h2
    exact mul300 h0 h1 h3 h4
theorem prod_append : ∀ (a b : List Int), prod (a ++ b) = prod a * prod b
  | [], b => by simp [prod]
  | x :: a, b => by simp [prod, prod_append a b, Int.mul_assoc]
theorem pw_le {n : Nat} (h : n ≤ 3) : pw n ≤ 27000000 := by
  match n, h with
  | 0, _ => decide
  | 1, _ => decide
  | 2, _ => decide
  | 3, _ => decide
theorem inR_take {l : List Int} (i : Nat) (h : inR l = true) : inR (l.take i) = true := by
  simp only [inR, List.all_eq_true] at h ⊢
  exact fun x hx => h x (List.mem_of_mem_take hx)
theorem prod_take_succ (l : List Int) (i : Nat) (h : i < l.length) : prod (l.take (i + 1)) = prod (l.take i) * l[i] := by
  rw [List.take_succ_eq_append_getElem h, prod_append]; simp [prod]
/-- The product so far is small. -/
theorem prod_take_le (l : List Int) (i : Nat) (hl : ¬ 3 < l.length) (h : inR (l.take i) = true) : 0 ≤ prod (l.take i) ∧ prod (l.take i) ≤ 27000000 := by
  obtain ⟨h0, h1⟩ := prod_le _ h
  have h2 : (l.take i).length ≤ 3 := by rw [List.length_take]; omega
  exact ⟨h0, Int.le_trans h1 (pw_le h2)⟩
theorem inR_take_succ (l : List Int) (i : Nat) (h : i < l.length) : inR (l.take (i + 1)) = true ↔ inR (l.take i) = true ∧ (0 ≤ l[i] ∧ l[i] ≤ 300) := by
  unfold inR
  rw [List.take_succ_eq_append_getElem h, List.all_append, Bool.and_eq_true]; simp
theorem inR_not {l : List Int} (i : Nat) (h : i < l.length) (hx : ¬ (0 ≤ l[i] ∧ l[i] ≤ 300)) : inR l = false := by
  rw [← Bool.not_eq_true]
  intro hh
  simp only [inR, List.all_eq_true] at hh
  exact hx (of_decide_eq_true (hh _ (List.getElem_mem h)))
theorem szOf_ge (l : List Int) : -1 ≤ szOf l ∧ szOf l ≤ 300 := by
  unfold szOf
  by_cases h1 : 3 < l.length
  · rw [if_pos h1]; omega
  · rw [if_neg h1]
    by_cases h2 : inR l = true
    · rw [if_pos h2]
      have := (prod_le l h2).1
      by_cases h3 : prod l > 300
      · rw [if_pos h3]; omega
      · rw [if_neg h3]; omega
    · rw [if_neg h2]; omega

/-- The place of an index, from a number on; -1 where the index isn't right. -/
def placeGo : Int → List Int → List Int → Int
  | a, n :: s, i :: x => if 0 ≤ i ∧ i ≤ n - 1 then placeGo (a * n + i) s x else -1
  | a, _, _ => a
def placeOf (s x : List Int) : Int := if szOf s ≥ 0 ∧ x.length = s.length then placeGo 0 s x else -1
theorem szOf_nonneg {l : List Int} (h : szOf l ≥ 0) : ¬ 3 < l.length ∧ inR l = true ∧ prod l ≤ 300 ∧ szOf l = prod l := by
  unfold szOf at h ⊢
  by_cases h1 : 3 < l.length
  · rw [if_pos h1] at h; omega
  · rw [if_neg h1] at h ⊢
    by_cases h2 : inR l = true
    · rw [if_pos h2] at h ⊢
      by_cases h3 : prod l > 300
      · rw [if_pos h3] at h; omega
      · rw [if_neg h3] at h ⊢; exact ⟨h1, h2, by omega, rfl⟩
    · rw [if_neg h2] at h; omega
def pb : Nat → Int
  | 0 => 0
  | n + 1 => 300 * pb n + 300
theorem pb_le {n : Nat} (h : n ≤ 3) : pb n ≤ 28000000 := by
  match n, h with
  | 0, _ => decide
  | 1, _ => decide
  | 2, _ => decide
  | 3, _ => decide

/-- The index of a place: the last number goes round the quickest; and what is left. -/
def idx : List Int → Int → List Int × Int
  | [], p => ([], p)
  | n :: s, p => ((idx s p).2 % n :: (idx s p).1, (idx s p).2 / n)
def indexOf (s : List Int) (p : Int) : List Int := if 0 ≤ p ∧ p ≤ szOf s - 1 then (idx s p).1 else []
theorem idx_length : ∀ (s : List Int) (p : Int), (idx s p).1.length = s.length
  | [], _ => rfl
  | n :: s, p => by simp [idx, idx_length s p]
theorem idx_le : ∀ (s : List Int) (p : Int), 0 ≤ p → (∀ n ∈ s, 0 < n) → 0 ≤ (idx s p).2 ∧ (idx s p).2 ≤ p
  | [], p, h, _ => ⟨h, Int.le_refl p⟩
  | n :: s, p, h, hp => by
    obtain ⟨h1, h2⟩ := idx_le s p h (fun m hm => hp m (List.mem_cons_of_mem _ hm))
    have hn := hp n (List.mem_cons_self ..)
    have h3 := Int.ediv_nonneg h1 (Int.le_of_lt hn)
    have h4 := Int.ediv_le_self n h1
    exact ⟨h3, Int.le_trans h4 h2⟩
theorem pos_of_prod : ∀ (l : List Int), inR l = true → 0 < prod l → ∀ n ∈ l, 0 < n
  | [], _, _, n, hn => by cases hn
  | a :: l, h, hp, n, hn => by
    obtain ⟨⟨h0, h1⟩, h2⟩ := inR_cons.1 h
    have hl := (prod_le l h2).1
    have ha : 0 < a := by
      rcases Int.lt_or_eq_of_le h0 with h | h
      · exact h
      · subst h; simp [prod] at hp
    have hl2 : 0 < prod l := by
      rcases Int.lt_or_eq_of_le hl with h | h
      · exact h
      · rw [prod, ← h, Int.mul_zero] at hp; exact absurd hp (Int.lt_irrefl 0)
    rcases List.mem_cons.1 hn with rfl | hn
    · exact ha
    · exact pos_of_prod l h2 hl2 n hn
theorem size_pos {s : List Int} {p : Int} (h : 0 ≤ p ∧ p ≤ szOf s - 1) : ¬ 3 < s.length ∧ inR s = true ∧ (∀ n ∈ s, 0 < n) ∧ p < prod s ∧ prod s ≤ 300 ∧ szOf s = prod s := by
  obtain ⟨h1, h2, h3, h4⟩ := szOf_nonneg (l := s) (by omega)
  exact ⟨h1, h2, pos_of_prod s h2 (by omega), by omega, h3, h4⟩
theorem tdivmod {q n : Int} (h : 0 ≤ q) : Int.tdiv q n = q / n ∧ Int.tmod q n = q % n := ⟨Int.tdiv_eq_ediv_of_nonneg h, Int.tmod_eq_emod_of_nonneg h⟩

theorem idx_snd : ∀ (s : List Int) (p : Int), (∀ n ∈ s, 0 < n) → (idx s p).2 = p / prod s
  | [], p, _ => by simp [idx, prod]
  | n :: s, p, h => by
    have h1 := idx_snd s p (fun m hm => h m (List.mem_cons_of_mem _ hm))
    have hp : 0 ≤ prod s := by
      have : ∀ (l : List Int), (∀ n ∈ l, 0 < n) → 0 ≤ prod l := by
        intro l
        induction l with
        | nil => intro _; decide
        | cons a l ih => intro hl; exact Int.mul_nonneg (Int.le_of_lt (hl a (List.mem_cons_self ..))) (ih (fun m hm => hl m (List.mem_cons_of_mem _ hm)))
      exact this s (fun m hm => h m (List.mem_cons_of_mem _ hm))
    show (idx s p).2 / n = p / (n * prod s)
    rw [h1, Int.ediv_ediv_of_nonneg hp, Int.mul_comm (prod s) n]
theorem placeGo_idx : ∀ (s : List Int) (p a : Int), (∀ n ∈ s, 0 < n) → placeGo a s (idx s p).1 = a * prod s + p - (idx s p).2 * prod s
  | [], p, a, _ => by simp [idx, prod, placeGo]
  | n :: s, p, a, h => by
    have hn := h n (List.mem_cons_self ..)
    have h0 := Int.emod_nonneg (idx s p).2 (show n ≠ 0 by omega)
    have h1 := Int.emod_lt_of_pos (idx s p).2 hn
    show (if 0 ≤ (idx s p).2 % n ∧ (idx s p).2 % n ≤ n - 1 then placeGo (a * n + (idx s p).2 % n) s (idx s p).1 else -1) = a * (n * prod s) + p - (idx s p).2 / n * (n * prod s)
    rw [if_pos (by omega), placeGo_idx s p _ (fun m hm => h m (List.mem_cons_of_mem _ hm))]
    have h2 := Int.mul_ediv_add_emod (idx s p).2 n
    generalize (idx s p).2 = q at *
    generalize prod s = P at *
    generalize hr : q % n = r at *
    generalize ht : q / n = t at *
    have e1 : (a * n + r) * P = a * (n * P) + r * P := by rw [Int.add_mul, Int.mul_assoc]
    have e2 : q * P = t * (n * P) + r * P := by rw [← h2, Int.add_mul, Int.mul_assoc, Int.mul_left_comm]
    rw [e1, e2]; omega
theorem place_index {s : List Int} {p : Int} (h : 0 ≤ p ∧ p ≤ szOf s - 1) : placeOf s (indexOf s p) = p := by
  obtain ⟨h1, h2, h3, h4, h5, h6⟩ := size_pos h
  unfold placeOf indexOf
  rw [if_pos h, if_pos ⟨by omega, idx_length s p⟩, placeGo_idx s p 0 h3, idx_snd s p h3, Int.ediv_eq_zero_of_lt h.1 h4]
  omega
theorem idx_placeGo : ∀ (s x : List Int) (a : Int), s.length = x.length → 0 ≤ a → placeGo a s x ≥ 0 → idx s (placeGo a s x) = (x, a)
  | [], [], a, _, _, _ => by simp [placeGo, idx]
  | [], _ :: _, _, hl, _, _ => by simp at hl
  | _ :: _, [], _, hl, _, _ => by simp at hl
  | n :: s, i :: x, a, hl, h0, h => by
    unfold placeGo at h ⊢
    by_cases hx : 0 ≤ i ∧ i ≤ n - 1
    · rw [if_pos hx] at h ⊢
      have hm := Int.mul_nonneg h0 (show 0 ≤ n by omega)
      have ih := idx_placeGo s x (a * n + i) (by simpa using hl) (by omega) h
      have e1 : (a * n + i) % n = i := by rw [Int.add_comm, Int.add_mul_emod_self_right, Int.emod_eq_of_lt hx.1 (by omega)]
      have e2 : (a * n + i) / n = a := by rw [Int.add_comm, Int.add_mul_ediv_right _ _ (by omega), Int.ediv_eq_zero_of_lt hx.1 (by omega), Int.zero_add]
      show ((idx s (placeGo (a * n + i) s x)).2 % n :: (idx s (placeGo (a * n + i) s x)).1, (idx s (placeGo (a * n + i) s x)).2 / n) = _
      rw [ih]; dsimp only; rw [e1, e2]
    · rw [if_neg hx] at h; omega
theorem placeGo_le : ∀ (s x : List Int) (a : Int), s.length = x.length → 0 ≤ a → placeGo a s x ≥ 0 → (∀ n ∈ s, 0 ≤ n) → placeGo a s x < (a + 1) * prod s
  | [], [], a, _, h0, _, _ => by simp [placeGo, prod]; omega
  | [], _ :: _, _, hl, _, _, _ => by simp at hl
  | _ :: _, [], _, hl, _, _, _ => by simp at hl
  | n :: s, i :: x, a, hl, h0, h, hn => by
    unfold placeGo at h ⊢
    by_cases hx : 0 ≤ i ∧ i ≤ n - 1
    · rw [if_pos hx] at h ⊢
      have hm := Int.mul_nonneg h0 (show 0 ≤ n by omega)
      have hp : 0 ≤ prod s := by
        have : ∀ (l : List Int), (∀ n ∈ l, 0 ≤ n) → 0 ≤ prod l := by
          intro l
          induction l with
          | nil => intro _; decide
          | cons a l ih => intro hl; exact Int.mul_nonneg (hl a (List.mem_cons_self ..)) (ih (fun m hm => hl m (List.mem_cons_of_mem _ hm)))
        exact this s (fun m hm => hn m (List.mem_cons_of_mem _ hm))
      refine Int.lt_of_lt_of_le (placeGo_le s x (a * n + i) (by simpa using hl) (by omega) h (fun m hm => hn m (List.mem_cons_of_mem _ hm))) ?_
      rw [prod, ← Int.mul_assoc]
      refine Int.mul_le_mul_of_nonneg_right ?_ hp
      rw [Int.add_mul, Int.one_mul]; omega
    · rw [if_neg hx] at h; omega
theorem index_place {s x : List Int} (h : placeOf s x ≥ 0) : indexOf s (placeOf s x) = x := by
  unfold placeOf at h ⊢
  by_cases hc : szOf s ≥ 0 ∧ x.length = s.length
  · rw [if_pos hc] at h ⊢
    obtain ⟨h1, h2, h3, h4⟩ := szOf_nonneg hc.1
    have hn : ∀ n ∈ s, 0 ≤ n := fun n hm => by
      have := List.all_eq_true.1 h2 n hm; have := of_decide_eq_true this; omega
    have h5 := placeGo_le s x 0 hc.2.symm (by omega) h hn
    rw [Int.zero_add, Int.one_mul] at h5
    unfold indexOf
    rw [if_pos (by omega), idx_placeGo s x 0 hc.2.symm (by omega) h]
  · rw [if_neg hc] at h; omega

theorem impl_within_eq (a b c : Int) : impl_within.f a b c = some (decide (b ≤ a ∧ a ≤ c)) := by
  unfold impl_within.f
  by_cases h : a ≥ b
  · rw [if_pos h]; congr 1; rw [Bool.eq_iff_iff, decide_eq_true_iff, decide_eq_true_iff]; omega
  · rw [if_neg h]; congr 1; symm; rw [decide_eq_false_iff_not]; omega

theorem impl_SizeOf_l0 (l : List Int) (hl : ¬ 3 < l.length) (d : Nat) : ∀ (i : Nat), i + d = l.length → inR (l.take i) = true → Ev (fun k => impl_SizeOf.l0 k (prod (l.take i)) l (l.length : Int) (i : Int)) (if inR l = true then (if prod l > 300 then -1 else prod l) else -1) := by
  induction d with
  | zero =>
    intro i hi hr
    have e : l.take i = l := List.take_of_length_le (by omega)
    rw [e] at hr ⊢
    rw [if_pos hr]
    refine Ev.step (f := fun _ => some (if prod l > 300 then -1 else prod l)) (fun k => ?_) (Ev.now _)
    simp only [impl_SizeOf.l0]; rw [if_neg (by omega)]
    by_cases h : prod l > 300
    · rw [if_pos h, if_pos h]
    · rw [if_neg h, if_neg h]
  | succ d ih =>
    intro i hi hr
    have hlt : i < l.length := by omega
    by_cases hx : 0 ≤ l[i] ∧ l[i] ≤ 300
    · have hr' := (inR_take_succ l i hlt).2 ⟨hr, hx⟩
      refine Ev.step (f := fun k => impl_SizeOf.l0 k (prod (l.take (i + 1))) l (l.length : Int) ((i + 1 : Nat) : Int)) (fun k => ?_) (ih (i + 1) (by omega) hr')
      simp only [impl_SizeOf.l0]
      rw [if_pos (by omega), if_pos (by omega), if_pos (by omega), impl_within_eq, rdn l i hlt, decide_eq_true hx]
      simp only [Option.bind_some, if_true]
      have hp := prod_take_le l (i + 1) hl hr'
      rw [w64s i (by omega), ← prod_take_succ l i hlt, w64 (by omega) (by omega)]
    · rw [if_neg (by rw [inR_not i hlt hx]; simp)]
      refine Ev.step (f := fun _ => some (-1)) (fun k => ?_) (Ev.now _)
      simp only [impl_SizeOf.l0]
      rw [if_pos (by omega), if_pos (by omega), if_pos (by omega), impl_within_eq, rdn l i hlt, decide_eq_false hx]
      rfl
theorem impl_SizeOf_ev (l : List Int) : Ev (fun k => impl_SizeOf.f k l) (szOf l) := by
  unfold impl_SizeOf.f szOf
  by_cases h : 3 < l.length
  · rw [if_pos h]; exact evPos (by omega) (Ev.now _)
  · rw [if_neg h]
    refine evNeg (by omega) ?_
    have := impl_SizeOf_l0 l h l.length 0 (by omega) (by simp [inR])
    simpa only [List.take_zero, prod, Int.ofNat_zero, Int.natCast_zero] using this

theorem impl_IndexOf_l0 (s : List Int) (p : Int) (hp : 0 ≤ p) (hp2 : p ≤ 1000) (hs : ¬ 3 < s.length) (hpos : ∀ n ∈ s, 0 < n) : ∀ (i : Nat) (m : List Int), i ≤ s.length → m.length = s.length → m.drop i = (idx (s.drop i) p).1 → Ev (fun k => impl_IndexOf.l0 k s (idx (s.drop i) p).2 m ((i : Int) - 1)) (idx s p).1 := by
  intro i
  induction i with
  | zero =>
    intro m _ hm ht
    refine Ev.step (f := fun _ => some m) (fun k => ?_) (evSome (by simpa using ht))
    simp only [impl_IndexOf.l0]; rw [if_neg (by omega)]
  | succ i ih =>
    intro m hi hm ht
    have hlt : i < s.length := by omega
    have hn : 0 < s[i] := hpos _ (List.getElem_mem hlt)
    obtain ⟨hq0, hq1⟩ := idx_le (s.drop (i + 1)) p hp (fun n hn => hpos n (List.mem_of_mem_drop hn))
    have e := List.drop_eq_getElem_cons hlt
    refine Ev.step (f := fun k => impl_IndexOf.l0 k s (idx (s.drop i) p).2 (m.set i ((idx (s.drop (i + 1)) p).2 % s[i])) ((i : Int) - 1)) (fun k => ?_) (ih (m.set i ((idx (s.drop (i + 1)) p).2 % s[i])) (by omega) (by rw [List.length_set, hm]) ?_)
    · simp only [impl_IndexOf.l0]
      have e1 : ((i + 1 : Nat) : Int) - 1 = (i : Int) := by omega
      rw [e1, if_pos (by omega), if_pos (by omega), if_pos (by omega), rdn s i hlt, if_neg (by omega), if_pos (by omega), (tdivmod hq0).1, (tdivmod hq0).2, Int.toNat_natCast]
      have h3 := Int.ediv_nonneg hq0 (Int.le_of_lt hn)
      have h4 := Int.ediv_le_self s[i] hq0
      rw [w64 (x := (idx (s.drop (i + 1)) p).2 / s[i]) (by omega) (by omega), w64 (x := (i : Int) - 1) (by omega) (by omega), e]
      rfl
    · rw [e, List.drop_eq_getElem_cons (by rw [List.length_set]; omega), List.getElem_set_self, List.drop_set_of_lt (by omega), ht]
      rfl
theorem impl_IndexOf_ev (s : List Int) (p : Int) : Ev (fun k => impl_IndexOf.f k s p) (indexOf s p) := by
  unfold impl_IndexOf.f indexOf
  refine Ev.bind (impl_SizeOf_ev s) ?_
  have hg := szOf_ge s
  refine evBind0 (by rw [impl_within_eq, w64 (by omega) (by omega)]) ?_
  by_cases h : 0 ≤ p ∧ p ≤ szOf s - 1
  · obtain ⟨h1, h2, h3, h4, h5, h6⟩ := size_pos h
    rw [if_pos h]
    refine evPos (by simpa using h) (evPos (by omega) (evPos (by omega) ?_))
    have := impl_IndexOf_l0 s p h.1 (by omega) h1 h3 s.length (List.replicate s.length 0) (Nat.le_refl _) (by simp) (by simp [idx])
    rw [w64 (by omega) (by omega)]
    simpa [idx] using this
  · rw [if_neg h]
    exact evNeg (by simpa using h) (Ev.now _)

theorem spec_l1In_eq (a b c : Int) : spec_l1In.f a b c = some (decide (b ≤ a ∧ a ≤ c)) := by
  unfold spec_l1In.f
  by_cases h : a ≥ b
  · rw [if_pos h]; congr 1; rw [Bool.eq_iff_iff, decide_eq_true_iff, decide_eq_true_iff]; omega
  · rw [if_neg h]; congr 1; symm; rw [decide_eq_false_iff_not]; omega

theorem spec_SizeOf_l1 (l : List Int) (hl : ¬ 3 < l.length) (z : Bool) (hr : inR l = true) (hz : z = true → prod l = 0) (d : Nat) : ∀ (i : Nat), i + d = l.length → Ev (fun k => spec_SizeOf.l1 k l z (prod (l.take i)) (i : Int)) (if prod l > 300 then -1 else prod l) := by
  induction d with
  | zero =>
    intro i hi
    have e : l.take i = l := List.take_of_length_le (by omega)
    rw [e]
    refine Ev.step (f := fun _ => some (if prod l > 300 then -1 else prod l)) (fun k => ?_) (Ev.now _)
    simp only [spec_SizeOf.l1]; rw [if_neg (by omega)]
    by_cases h : prod l > 300
    · rw [if_pos h, if_pos h]
      rw [if_neg (by intro hh; have := hz hh; omega)]
    · rw [if_neg h, if_neg h]
  | succ d ih =>
    intro i hi
    have hlt : i < l.length := by omega
    have hr' := inR_take (i + 1) hr
    refine Ev.step (f := fun k => spec_SizeOf.l1 k l z (prod (l.take (i + 1))) ((i + 1 : Nat) : Int)) (fun k => ?_) (ih (i + 1) (by omega))
    simp only [spec_SizeOf.l1]
    have hp := prod_take_le l (i + 1) hl hr'
    rw [if_pos (by omega), if_pos (by omega), rdn l i hlt, w64s i (by omega), ← prod_take_succ l i hlt, w64 (by omega) (by omega)]
theorem prod_zero (l : List Int) (h : l.any (· == 0) = true) : prod l = 0 := by
  induction l with
  | nil => simp at h
  | cons a l ih =>
    rw [List.any_cons, Bool.or_eq_true] at h
    rcases h with h | h
    · have : a = 0 := by simpa using h
      rw [prod, this, Int.zero_mul]
    · rw [prod, ih h, Int.mul_zero]
theorem spec_SizeOf_l0 (l : List Int) (hl : ¬ 3 < l.length) (d : Nat) : ∀ (i : Nat) (z : Bool), i + d = l.length → inR (l.take i) = true → z = (l.take i).any (· == 0) → Ev (fun k => spec_SizeOf.l0 k l z (i : Int)) (if inR l = true then (if prod l > 300 then -1 else prod l) else -1) := by
  induction d with
  | zero =>
    intro i z hi hr hz
    have e : l.take i = l := List.take_of_length_le (by omega)
    rw [e] at hr hz
    rw [if_pos hr]
    refine Ev.step (f := fun k => spec_SizeOf.l1 k l z 1 0) (fun k => ?_) ?_
    · simp only [spec_SizeOf.l0]; rw [if_neg (by omega)]
    · exact spec_SizeOf_l1 l hl z hr (fun h => prod_zero l (by rw [← hz]; exact h)) l.length 0 (by omega)
  | succ d ih =>
    intro i z hi hr hz
    have hlt : i < l.length := by omega
    by_cases hx : 0 ≤ l[i] ∧ l[i] ≤ 300
    · have hr' := (inR_take_succ l i hlt).2 ⟨hr, hx⟩
      refine Ev.step (f := fun k => spec_SizeOf.l0 k l ((l.take (i + 1)).any (· == 0)) ((i + 1 : Nat) : Int)) (fun k => ?_) (ih (i + 1) _ (by omega) hr' rfl)
      simp only [spec_SizeOf.l0]
      rw [if_pos (by omega), if_pos (by omega), spec_l1In_eq, rdn l i hlt, decide_eq_true hx]
      simp only [Option.bind_some, if_true]
      rw [w64s i (by omega), List.take_succ_eq_append_getElem hlt, List.any_append, ← hz]
      cases z with
      | true => simp
      | false => simp
    · rw [if_neg (by rw [inR_not i hlt hx]; simp)]
      refine Ev.step (f := fun _ => some (-1)) (fun k => ?_) (Ev.now _)
      simp only [spec_SizeOf.l0]
      rw [if_pos (by omega), if_pos (by omega), spec_l1In_eq, rdn l i hlt, decide_eq_false hx]
      rfl
theorem spec_SizeOf_ev (l : List Int) : Ev (fun k => spec_SizeOf.f k l) (szOf l) := by
  unfold spec_SizeOf.f szOf
  by_cases h : 3 < l.length
  · rw [if_pos h]; exact evPos (by omega) (Ev.now _)
  · rw [if_neg h]
    refine evNeg (by omega) ?_
    exact spec_SizeOf_l0 l h l.length 0 false (by omega) (by simp [inR]) (by simp)

theorem spec_ShapeOk_ev (l : List Int) : Ev (fun k => spec_ShapeOk.f k l) (decide (szOf l ≥ 0)) := by
  unfold spec_ShapeOk.f
  exact Ev.bind (spec_SizeOf_ev l) (Ev.now _)

theorem spec_IndexOf_l0 (s : List Int) (p : Int) (hp : 0 ≤ p) (hp2 : p ≤ 1000) (hs : ¬ 3 < s.length) (hpos : ∀ n ∈ s, 0 < n) : ∀ (i : Nat) (m : List Int), i ≤ s.length → m.length = s.length → m.drop i = (idx (s.drop i) p).1 → Ev (fun k => spec_IndexOf.l0 k s (idx (s.drop i) p).2 m ((i : Int) - 1)) (idx s p).1 := by
  intro i
  induction i with
  | zero =>
    intro m _ hm ht
    refine Ev.step (f := fun _ => some m) (fun k => ?_) (evSome (by simpa using ht))
    simp only [spec_IndexOf.l0]; rw [if_neg (by omega)]
  | succ i ih =>
    intro m hi hm ht
    have hlt : i < s.length := by omega
    have hn : 0 < s[i] := hpos _ (List.getElem_mem hlt)
    obtain ⟨hq0, hq1⟩ := idx_le (s.drop (i + 1)) p hp (fun n hn => hpos n (List.mem_of_mem_drop hn))
    have e := List.drop_eq_getElem_cons hlt
    refine Ev.step (f := fun k => spec_IndexOf.l0 k s (idx (s.drop i) p).2 (m.set i ((idx (s.drop (i + 1)) p).2 % s[i])) ((i : Int) - 1)) (fun k => ?_) (ih (m.set i ((idx (s.drop (i + 1)) p).2 % s[i])) (by omega) (by rw [List.length_set, hm]) ?_)
    · simp only [spec_IndexOf.l0]
      have e1 : ((i + 1 : Nat) : Int) - 1 = (i : Int) := by omega
      rw [e1, if_pos (by omega), if_pos (by omega), if_pos (by omega), rdn s i hlt, if_neg (by omega), if_pos (by omega), (tdivmod hq0).1, (tdivmod hq0).2, Int.toNat_natCast]
      have h3 := Int.ediv_nonneg hq0 (Int.le_of_lt hn)
      have h4 := Int.ediv_le_self s[i] hq0
      rw [w64 (x := (idx (s.drop (i + 1)) p).2 / s[i]) (by omega) (by omega), w64 (x := (i : Int) - 1) (by omega) (by omega), e]
      rfl
    · rw [e, List.drop_eq_getElem_cons (by rw [List.length_set]; omega), List.getElem_set_self, List.drop_set_of_lt (by omega), ht]
      rfl
theorem spec_IndexOf_j0 (s : List Int) (p : Int) (b : Bool) (hb : b = !decide (0 ≤ p ∧ p ≤ szOf s - 1)) : Ev (fun k => spec_IndexOf.j0 k s p b) (indexOf s p) := by
  unfold indexOf
  have hg := szOf_ge s
  by_cases h : 0 ≤ p ∧ p ≤ szOf s - 1
  · obtain ⟨h1, h2, h3, h4, h5, h6⟩ := size_pos h
    rw [if_pos h]
    have hb' : b = false := by rw [hb, decide_eq_true h]; rfl
    subst hb'
    have := spec_IndexOf_l0 s p h.1 (by omega) h1 h3 s.length (List.replicate s.length 0) (Nat.le_refl _) (by simp) (by simp [idx])
    refine Ev.step (f := fun k => spec_IndexOf.l0 k s p (List.replicate s.length 0) ((s.length : Int) - 1)) (fun k => ?_) (by simpa [idx] using this)
    simp only [spec_IndexOf.j0]
    rw [if_neg (by simp), if_pos (by omega), if_pos (by omega), w64 (by omega) (by omega), Int.toNat_natCast]
  · rw [if_neg h]
    have hb' : b = true := by rw [hb, decide_eq_false h]; rfl
    subst hb'
    refine Ev.step (f := fun _ => some []) (fun k => ?_) (Ev.now _)
    rw [spec_IndexOf.j0]; exact if_pos rfl
theorem spec_IndexOf_ev (s : List Int) (p : Int) : Ev (fun k => spec_IndexOf.f k s p) (indexOf s p) := by
  unfold spec_IndexOf.f
  refine Ev.bind (spec_ShapeOk_ev s) ?_
  have hg := szOf_ge s
  by_cases h1 : szOf s ≥ 0
  · refine evPos (by simpa using h1) (Ev.bind (spec_SizeOf_ev s) ?_)
    refine evBind0 (by rw [spec_l1In_eq, w64 (by omega) (by omega)]) ?_
    exact spec_IndexOf_j0 s p _ rfl
  · refine evNeg (by simpa using h1) ?_
    exact spec_IndexOf_j0 s p true (by rw [decide_eq_false (by omega)]; rfl)

theorem impl_ShapeOk_ev (l : List Int) : Ev (fun k => impl_ShapeOk.f k l) (decide (szOf l ≥ 0)) := by
  unfold impl_ShapeOk.f
  exact Ev.bind (impl_SizeOf_ev l) (Ev.now _)

theorem impl_PlaceOf_l0 (s x : List Int) (hs : ¬ 3 < s.length) (hr : inR s = true) (hx : x.length = s.length) (d : Nat) : ∀ (i : Nat) (a : Int), i + d = s.length → 0 ≤ a → a ≤ pb i → Ev (fun k => impl_PlaceOf.l0 k x a s (s.length : Int) (i : Int)) (placeGo a (s.drop i) (x.drop i)) := by
  induction d with
  | zero =>
    intro i a hi h0 h1
    have e : s.drop i = [] := List.drop_of_length_le (by omega)
    refine Ev.step (f := fun _ => some a) (fun k => ?_) (evSome ?_)
    · simp only [impl_PlaceOf.l0]; rw [if_neg (by omega)]
    · rw [e]; rfl
  | succ d ih =>
    intro i a hi h0 h1
    have hlt : i < s.length := by omega
    have hlt' : i < x.length := by omega
    rw [List.drop_eq_getElem_cons hlt, List.drop_eq_getElem_cons hlt']
    have hr1 := ((inR_take_succ s i hlt).1 (inR_take (i + 1) hr)).2
    have hp1 : pb i ≤ 28000000 := pb_le (by omega)
    have hq : wrap64 (s[i] - 1) = s[i] - 1 := by rw [w64] <;> omega
    unfold placeGo
    by_cases hx1 : 0 ≤ x[i] ∧ x[i] ≤ s[i] - 1
    · rw [if_pos hx1]
      have hm := mul300 h0 h1 hr1.1 hr1.2
      have hp2 : pb (i + 1) = 300 * pb i + 300 := rfl
      have hu : a * s[i] + x[i] ≤ pb (i + 1) := by omega
      refine Ev.step (f := fun k => impl_PlaceOf.l0 k x (a * s[i] + x[i]) s (s.length : Int) ((i + 1 : Nat) : Int)) (fun k => ?_) (ih (i + 1) _ (by omega) (by omega) hu)
      simp only [impl_PlaceOf.l0]
      rw [if_pos (by omega), if_pos (by omega), if_pos (by omega), if_pos (by omega), impl_within_eq, rdn x i hlt', rdn s i hlt, hq, decide_eq_true hx1]
      simp only [Option.bind_some, if_true]
      rw [w64s i (by omega), w64 (x := a * s[i]) (by omega) (by omega), w64 (by omega) (by omega)]
    · rw [if_neg hx1]
      refine Ev.step (f := fun _ => some (-1)) (fun k => ?_) (Ev.now _)
      simp only [impl_PlaceOf.l0]
      rw [if_pos (by omega), if_pos (by omega), if_pos (by omega), if_pos (by omega), impl_within_eq, rdn x i hlt', rdn s i hlt, hq, decide_eq_false hx1]
      rfl
theorem impl_PlaceOf_ev (s x : List Int) : Ev (fun k => impl_PlaceOf.f k s x) (placeOf s x) := by
  unfold impl_PlaceOf.f placeOf
  refine Ev.bind (impl_ShapeOk_ev s) ?_
  by_cases h1 : szOf s ≥ 0
  · refine evPos (by simpa using h1) ?_
    obtain ⟨hl, hr, _, _⟩ := szOf_nonneg h1
    by_cases h2 : x.length = s.length
    · rw [if_pos ⟨h1, h2⟩, show ((x.length : Int) != (s.length : Int)) = false by simp [h2]]
      refine Ev.step (f := fun k => impl_PlaceOf.l0 k x 0 s (s.length : Int) 0) (fun k => ?_) (impl_PlaceOf_l0 s x hl hr h2 s.length 0 0 (by omega) (by omega) (by simp [pb]))
      simp only [impl_PlaceOf.j0]; rw [if_neg (by simp)]
    · rw [if_neg (fun h => h2 h.2), show ((x.length : Int) != (s.length : Int)) = true by simp; omega]
      refine Ev.step (f := fun _ => some (-1)) (fun k => ?_) (Ev.now _)
      rw [impl_PlaceOf.j0]; exact if_pos rfl
  · refine evNeg (by simpa using h1) ?_
    rw [if_neg (fun h => h1 h.1)]
    refine Ev.step (f := fun _ => some (-1)) (fun k => ?_) (Ev.now _)
    rw [impl_PlaceOf.j0]; exact if_pos rfl

theorem spec_PlaceOf_l0 (s x : List Int) (hs : ¬ 3 < s.length) (hr : inR s = true) (hx : x.length = s.length) (d : Nat) : ∀ (i : Nat) (a : Int), i + d = s.length → 0 ≤ a → a ≤ pb i → Ev (fun k => spec_PlaceOf.l0 k s x a (i : Int)) (placeGo a (s.drop i) (x.drop i)) := by
  induction d with
  | zero =>
    intro i a hi h0 h1
    have e : s.drop i = [] := List.drop_of_length_le (by omega)
    refine Ev.step (f := fun _ => some a) (fun k => ?_) (evSome ?_)
    · simp only [spec_PlaceOf.l0]; rw [if_neg (by omega)]
    · rw [e]; rfl
  | succ d ih =>
    intro i a hi h0 h1
    have hlt : i < s.length := by omega
    have hlt' : i < x.length := by omega
    rw [List.drop_eq_getElem_cons hlt, List.drop_eq_getElem_cons hlt']
    have hr1 := ((inR_take_succ s i hlt).1 (inR_take (i + 1) hr)).2
    have hp1 : pb i ≤ 28000000 := pb_le (by omega)
    have hq : wrap64 (s[i] - 1) = s[i] - 1 := by rw [w64] <;> omega
    unfold placeGo
    by_cases hx1 : 0 ≤ x[i] ∧ x[i] ≤ s[i] - 1
    · rw [if_pos hx1]
      have hm := mul300 h0 h1 hr1.1 hr1.2
      have hp2 : pb (i + 1) = 300 * pb i + 300 := rfl
      have hu : a * s[i] + x[i] ≤ pb (i + 1) := by omega
      refine Ev.step (f := fun k => spec_PlaceOf.l0 k s x (a * s[i] + x[i]) ((i + 1 : Nat) : Int)) (fun k => ?_) (ih (i + 1) _ (by omega) (by omega) hu)
      simp only [spec_PlaceOf.l0]
      rw [if_pos (by omega), if_pos (by omega), if_pos (by omega), spec_l1In_eq, rdn x i hlt', rdn s i hlt, hq, decide_eq_true hx1]
      simp only [Option.bind_some, if_true]
      rw [w64s i (by omega), w64 (x := a * s[i]) (by omega) (by omega), w64 (by omega) (by omega)]
    · rw [if_neg hx1]
      refine Ev.step (f := fun _ => some (-1)) (fun k => ?_) (Ev.now _)
      simp only [spec_PlaceOf.l0]
      rw [if_pos (by omega), if_pos (by omega), if_pos (by omega), spec_l1In_eq, rdn x i hlt', rdn s i hlt, hq, decide_eq_false hx1]
      rfl
theorem spec_PlaceOf_ev (s x : List Int) : Ev (fun k => spec_PlaceOf.f k s x) (placeOf s x) := by
  unfold spec_PlaceOf.f placeOf
  refine Ev.bind (spec_ShapeOk_ev s) ?_
  by_cases h1 : szOf s ≥ 0
  · refine evPos (by simpa using h1) ?_
    obtain ⟨hl, hr, _, _⟩ := szOf_nonneg h1
    by_cases h2 : x.length = s.length
    · rw [if_pos ⟨h1, h2⟩, show ((x.length : Int) != (s.length : Int)) = false by simp [h2]]
      refine Ev.step (f := fun k => spec_PlaceOf.l0 k s x 0 0) (fun k => ?_) (spec_PlaceOf_l0 s x hl hr h2 s.length 0 0 (by omega) (by omega) (by simp [pb]))
      simp only [spec_PlaceOf.j0]; rw [if_neg (by simp)]
    · rw [if_neg (fun h => h2 h.2), show ((x.length : Int) != (s.length : Int)) = true by simp; omega]
      refine Ev.step (f := fun _ => some (-1)) (fun k => ?_) (Ev.now _)
      rw [spec_PlaceOf.j0]; exact if_pos rfl
  · refine evNeg (by simpa using h1) ?_
    rw [if_neg (fun h => h1 h.1)]
    refine Ev.step (f := fun _ => some (-1)) (fun k => ?_) (Ev.now _)
    rw [spec_PlaceOf.j0]; exact if_pos rfl

theorem slices_Equal_l0 (l m : List Int) (hl : l.length ≤ 35184372088832) (hm : l.length = m.length) (d : Nat) : ∀ (i : Nat), i + d = l.length → Ev (fun k => slices_Equal_int_int.l0 k l m (l.length : Int) (i : Int)) (decide (l.drop i = m.drop i)) := by
  induction d with
  | zero =>
    intro i hi
    refine Ev.step (f := fun _ => some (decide (l.drop i = m.drop i))) (fun k => ?_) (Ev.now _)
    simp only [slices_Equal_int_int.l0]
    rw [if_neg (by omega), List.drop_of_length_le (by omega), List.drop_of_length_le (by omega)]; simp
  | succ d ih =>
    intro i hi
    have hlt : i < l.length := by omega
    have hlt' : i < m.length := by omega
    have e1 := List.drop_eq_getElem_cons hlt
    have e2 := List.drop_eq_getElem_cons hlt'
    by_cases hx : l[i] = m[i]
    · refine Ev.step (f := fun k => slices_Equal_int_int.l0 k l m (l.length : Int) ((i + 1 : Nat) : Int)) (fun k => ?_) (evEq (ih (i + 1) (by omega)) ?_)
      · simp only [slices_Equal_int_int.l0]
        rw [if_pos (by omega), if_pos (by omega), if_pos (by omega), if_pos (by omega), rdn l i hlt, rdn m i hlt', if_pos hx, w64s i (by omega)]
      · rw [e1, e2, hx]; simp only [List.cons.injEq, true_and]
    · refine Ev.step (f := fun _ => some false) (fun k => ?_) (evSome ?_)
      · simp only [slices_Equal_int_int.l0]
        rw [if_pos (by omega), if_pos (by omega), if_pos (by omega), if_pos (by omega), rdn l i hlt, rdn m i hlt', if_neg hx]
      · rw [e1, e2]; symm; rw [decide_eq_false_iff_not]; intro h; exact hx (List.cons.inj h).1
theorem slices_Equal_ev (l m : List Int) (hl : l.length ≤ 35184372088832) : Ev (fun k => slices_Equal_int_int.f k l m) (decide (l = m)) := by
  unfold slices_Equal_int_int.f
  by_cases h : l.length = m.length
  · refine evPos (by omega) ?_
    exact slices_Equal_l0 l m hl h l.length 0 (by omega)
  · refine evNeg (by omega) (evSome ?_)
    symm; rw [decide_eq_false_iff_not]; intro e; exact h (by rw [e])

theorem laws_sameInts_l0 (l m : List Int) (hl : l.length ≤ 35184372088832) (hm : l.length = m.length) (d : Nat) : ∀ (i : Nat), i + d = l.length → Ev (fun k => laws_sameInts.l0 k l m (i : Int)) (decide (l.drop i = m.drop i)) := by
  induction d with
  | zero =>
    intro i hi
    refine Ev.step (f := fun _ => some (decide (l.drop i = m.drop i))) (fun k => ?_) (Ev.now _)
    simp only [laws_sameInts.l0]
    rw [if_neg (by omega), List.drop_of_length_le (by omega), List.drop_of_length_le (by omega)]; simp
  | succ d ih =>
    intro i hi
    have hlt : i < l.length := by omega
    have hlt' : i < m.length := by omega
    have e1 := List.drop_eq_getElem_cons hlt
    have e2 := List.drop_eq_getElem_cons hlt'
    by_cases hx : l[i] = m[i]
    · refine Ev.step (f := fun k => laws_sameInts.l0 k l m ((i + 1 : Nat) : Int)) (fun k => ?_) (evEq (ih (i + 1) (by omega)) ?_)
      · simp only [laws_sameInts.l0]
        rw [if_pos (by omega), if_pos (by omega), if_pos (by omega), rdn l i hlt, rdn m i hlt', if_pos hx, w64s i (by omega)]
      · rw [e1, e2, hx]; simp only [List.cons.injEq, true_and]
    · refine Ev.step (f := fun _ => some false) (fun k => ?_) (evSome ?_)
      · simp only [laws_sameInts.l0]
        rw [if_pos (by omega), if_pos (by omega), if_pos (by omega), rdn l i hlt, rdn m i hlt', if_neg hx]
      · rw [e1, e2]; symm; rw [decide_eq_false_iff_not]; intro h; exact hx (List.cons.inj h).1
theorem laws_sameInts_ev (l m : List Int) (hl : l.length ≤ 35184372088832) : Ev (fun k => laws_sameInts.f k l m) (decide (l = m)) := by
  unfold laws_sameInts.f
  by_cases h : l.length = m.length
  · refine evPos (by omega) ?_
    exact laws_sameInts_l0 l m hl h l.length 0 (by omega)
  · refine evNeg (by omega) (evSome ?_)
    symm; rw [decide_eq_false_iff_not]; intro e; exact h (by rw [e])
theorem laws_sameInts_rfl (l : List Int) (hl : l.length ≤ 35184372088832) : Ev (fun k => laws_sameInts.f k l l) true := evEq (laws_sameInts_ev l l hl) (by simp)

theorem laws_big_eq (l : List Int) : laws_big.f l = some (decide ((l.length : Int) > 1048576)) := rfl

theorem and255 (x : Int) : 0 ≤ Go.bits .and .i64 x 255 ∧ Go.bits .and .i64 x 255 ≤ 255 := by
  have h : Go.bits .and .i64 x 255 = IntKind.i64.wrap (((BitVec.ofInt 64 x).toNat &&& 255 : Nat) : Int) := by
    simp only [Go.bits, BitVec.toNat_and]; rfl
  have h2 : (BitVec.ofInt 64 x).toNat &&& 255 ≤ 255 := Nat.and_le_right
  rw [h, IntKind.wrap_i64]; omega
/-- A cursor's place lies in its bytes. -/
def Cu (c : List Int) (i : Int) : Prop := 0 ≤ i ∧ i ≤ c.length
theorem spec_l1Byte_dr (c : List Int) (i h : Int) (hc : Cu c i) (hl : c.length ≤ 1048576) : ∃ x i' h', spec_l1Byte.f c i h = some (x, i', h') ∧ (0 ≤ x ∧ x ≤ 255) ∧ Cu c i' := by
  obtain ⟨h0, h1⟩ := hc
  unfold spec_l1Byte.f
  by_cases h2 : i < (c.length : Int)
  · rw [if_pos h2, if_pos h0, w64 (x := i + 1) (by omega) (by omega)]
    exact ⟨_, _, _, rfl, and255 _, by omega, by omega⟩
  · rw [if_neg h2]
    exact ⟨_, _, _, rfl, and255 _, h0, h1⟩
theorem spec_l1Below_dr (c : List Int) (i h n : Int) (hc : Cu c i) (hl : c.length ≤ 1048576) : ∃ x i' h', spec_l1Below.f c i h n = some (x, i', h') ∧ (0 ≤ x ∧ (x < n ∨ n ≤ 0 ∧ x = 0)) ∧ Cu c i' := by
  unfold spec_l1Below.f
  by_cases h1 : n ≤ 0
  · rw [if_pos h1]; exact ⟨_, _, _, rfl, ⟨by omega, .inr ⟨h1, rfl⟩⟩, hc⟩
  · rw [if_neg h1]
    by_cases h2 : n ≤ 256
    · obtain ⟨x, i', h', e, hx, hc'⟩ := spec_l1Byte_dr c i h hc hl
      rw [if_pos h2, e, Option.bind_some, if_neg (by omega)]
      have h3 := Int.tmod_eq_emod_of_nonneg (b := n) hx.1
      have h4 := Int.emod_nonneg x (show n ≠ 0 by omega)
      have h5 := Int.emod_lt_of_pos x (show 0 < n by omega)
      exact ⟨_, _, _, rfl, ⟨by rw [h3]; exact h4, .inl (by rw [h3]; exact h5)⟩, hc'⟩
    · obtain ⟨x, i1, h1', e1, hx, hc1⟩ := spec_l1Byte_dr c i h hc hl
      obtain ⟨y, i2, h2', e2, hy, hc2⟩ := spec_l1Byte_dr c i1 h1' hc1 hl
      obtain ⟨z, i3, h3', e3, hz, hc3⟩ := spec_l1Byte_dr c i2 h2' hc2 hl
      obtain ⟨u, i4, h4', e4, hu, hc4⟩ := spec_l1Byte_dr c i3 h3' hc3 hl
      rw [if_neg h2, e1, Option.bind_some]; dsimp only
      rw [e2, Option.bind_some]; dsimp only
      rw [e3, Option.bind_some]; dsimp only
      rw [e4, Option.bind_some]; dsimp only
      rw [if_neg (by omega), w64 (x := x * 16777216) (by omega) (by omega), w64 (x := y * 65536) (by omega) (by omega), w64 (x := x * 16777216 + y * 65536) (by omega) (by omega), w64 (x := z * 256) (by omega) (by omega), w64 (x := x * 16777216 + y * 65536 + z * 256) (by omega) (by omega), w64 (x := x * 16777216 + y * 65536 + z * 256 + u) (by omega) (by omega)]
      generalize hq : x * 16777216 + y * 65536 + z * 256 + u = q
      have h3 := Int.tmod_eq_emod_of_nonneg (b := n) (show 0 ≤ q by omega)
      have h4 := Int.emod_nonneg q (show n ≠ 0 by omega)
      have h5 := Int.emod_lt_of_pos q (show 0 < n by omega)
      exact ⟨_, _, _, rfl, ⟨by rw [h3]; exact h4, .inl (by rw [h3]; exact h5)⟩, hc4⟩

theorem spec_l1New_l0 (c : List Int) (hl : c.length ≤ 1048576) (d : Nat) : ∀ (i : Nat) (h : Int), i + d = c.length → ∃ h', Ev (fun k => spec_l1New.l0 k c h (i : Int)) (c, 0, h') := by
  induction d with
  | zero =>
    intro i h hi
    refine ⟨h, Ev.step (f := fun _ => some (c, 0, h)) (fun k => ?_) (Ev.now _)⟩
    simp only [spec_l1New.l0]; rw [if_neg (by omega)]
  | succ d ih =>
    intro i h hi
    by_cases h4 : (i : Int) < 4000
    · obtain ⟨h', e⟩ := ih (i + 1) (Go.bits .and .i64 (wrap64 ((wrap64 ((wrap64 (h * 131)) + (wrap64 (rd c (i : Int))))) + 7)) 1073741823) (by omega)
      refine ⟨h', Ev.step (fun k => ?_) e⟩
      simp only [spec_l1New.l0]
      rw [if_pos (by omega), if_pos h4, if_pos (by omega), w64s i (by omega)]
    · refine ⟨h, Ev.step (f := fun _ => some (c, 0, h)) (fun k => ?_) (Ev.now _)⟩
      simp only [spec_l1New.l0]; rw [if_pos (by omega), if_neg h4]
theorem spec_l1New_dr (c : List Int) (hl : c.length ≤ 1048576) : ∃ h, Ev (fun k => spec_l1New.f k c) (c, 0, h) := by
  unfold spec_l1New.f
  exact spec_l1New_l0 c hl c.length 0 _ (by omega)
theorem cu0 (c : List Int) : Cu c 0 := ⟨Int.le_refl 0, by omega⟩

theorem spec_l1PickInt_dr (c : List Int) (i h : Int) (l : List Int) (hn : 0 < l.length) (hc : Cu c i) (hl : c.length ≤ 1048576) : ∃ x i' h', spec_l1PickInt.f c i h l = some (x, i', h') ∧ x ∈ l ∧ Cu c i' := by
  obtain ⟨x, i', h', e, hx, hc'⟩ := spec_l1Below_dr c i h (l.length : Int) hc hl
  have h1 : x < (l.length : Int) := by omega
  have h2 : x.toNat < l.length := by omega
  unfold spec_l1PickInt.f; rw [e, Option.bind_some]; dsimp only
  rw [if_pos hx.1, if_pos h1]
  refine ⟨_, _, _, rfl, ?_, hc'⟩
  simp only [rd, List.getD_eq_getElem?_getD, List.getElem?_eq_getElem h2, Option.getD_some]
  exact List.getElem_mem h2

theorem spec_l2DrawRight_dr (c : List Int) (i h : Int) (hc : Cu c i) (hl : c.length ≤ 1048576) : ∃ s i' h', Ev (fun k => spec_l2DrawRight.f k c i h) (s, i', h') ∧ (s.length ≤ 3 ∧ ∀ x ∈ s, 0 ≤ x ∧ x ≤ 5) ∧ Cu c i' := by
  unfold spec_l2DrawRight.f
  obtain ⟨x, i1, h1, e1, hx, hc1⟩ := spec_l1Below_dr c i h 5 hc hl
  by_cases x0 : x = 0
  · exact ⟨_, _, _, evBind0 e1 (evPos x0 (Ev.now _)), ⟨by simp, by simp⟩, hc1⟩
  · have hj : ∀ b, ∃ s i' h', Ev (fun k => spec_l2DrawRight.j0 k x b c i1 h1) (s, i', h') ∧ (s.length ≤ 3 ∧ ∀ x ∈ s, 0 ≤ x ∧ x ≤ 5) ∧ Cu c i' := by
      intro b
      cases b with
      | true =>
        obtain ⟨y, i2, h2, e2, hy, hc2⟩ := spec_l1Below_dr c i1 h1 6 hc1 hl
        refine ⟨_, _, _, Ev.step (fun k => by rw [spec_l2DrawRight.j0]) (evPos rfl (evBind0 e2 (Ev.now _))), ?_, hc2⟩
        dsimp only
        refine ⟨by simp, fun z hz => ?_⟩
        rw [List.mem_singleton] at hz; omega
      | false =>
        by_cases x3 : x = 3
        · obtain ⟨y, i2, h2, e2, hy, hc2⟩ := spec_l1Below_dr c i1 h1 4 hc1 hl
          obtain ⟨z, i3, h3, e3, hz, hc3⟩ := spec_l1Below_dr c i2 h2 3 hc2 hl
          refine ⟨[y, wrap64 (1 + z)], i3, h3, Ev.step (fun k => by rw [spec_l2DrawRight.j0]) (evNeg (by simp) (evPos x3 (evBind0 e2 ?_))), ?_, hc3⟩
          · exact evBind0 (a := (z, i3, h3)) e3 (Ev.now ([y, wrap64 (1 + z)], i3, h3))
          rw [w64 (x := 1 + z) (by omega) (by omega)]
          refine ⟨by simp, fun u hu => ?_⟩
          simp only [List.mem_cons, List.not_mem_nil, or_false] at hu; omega
        · obtain ⟨y, i2, h2, e2, hy, hc2⟩ := spec_l1Below_dr c i1 h1 3 hc1 hl
          obtain ⟨z, i3, h3, e3, hz, hc3⟩ := spec_l1Below_dr c i2 h2 2 hc2 hl
          obtain ⟨v, i4, h4, e4, hv, hc4⟩ := spec_l1Below_dr c i3 h3 4 hc3 hl
          refine ⟨[wrap64 (1 + y), wrap64 (1 + z), v], i4, h4, Ev.step (fun k => by rw [spec_l2DrawRight.j0]) (evNeg (by simp) (evNeg x3 (evBind0 e2 ?_))), ?_, hc4⟩
          · exact evBind0 (a := (z, i3, h3)) e3 (evBind0 (a := (v, i4, h4)) e4 (Ev.now ([wrap64 (1 + y), wrap64 (1 + z), v], i4, h4)))
          rw [w64 (x := 1 + y) (by omega) (by omega), w64 (x := 1 + z) (by omega) (by omega)]
          refine ⟨by simp, fun u hu => ?_⟩
          simp only [List.mem_cons, List.not_mem_nil, or_false] at hu; omega
    by_cases x1 : x = 1
    · obtain ⟨s, i', h', e, r⟩ := hj (x == 1)
      exact ⟨s, i', h', evBind0 e1 (evNeg x0 (evPos x1 e)), r⟩
    · obtain ⟨s, i', h', e, r⟩ := hj (x == 2)
      exact ⟨s, i', h', evBind0 e1 (evNeg x0 (evNeg x1 e)), r⟩
theorem spec_l2Draw_dr (c : List Int) (i h : Int) (hc : Cu c i) (hl : c.length ≤ 1048576) : ∃ s i' h', Ev (fun k => spec_l2Draw.f k c i h) (s, i', h') ∧ (s.length ≤ 4 ∧ ∀ x ∈ s, -1 ≤ x ∧ x ≤ 301) ∧ Cu c i' := by
  unfold spec_l2Draw.f
  obtain ⟨s, i1, h1, e1, ⟨hs, hx⟩, hc1⟩ := spec_l2DrawRight_dr c i h hc hl
  obtain ⟨x, i2, h2, e2, _, hc2⟩ := spec_l1Below_dr c i1 h1 20 hc1 hl
  by_cases x0 : x = 0
  · obtain ⟨y, i3, h3, e3, hy, hc3⟩ := spec_l1PickInt_dr c i2 h2 [-1, 0, 300, 301] (by decide) hc2 hl
    refine ⟨_, _, _, Ev.bind e1 (evBind0 e2 (evPos x0 (evBind0 e3 (evPos (by dsimp only; omega) (Ev.now _))))), ?_, hc3⟩
    dsimp only
    refine ⟨by rw [List.length_append]; simp; omega, fun u hu => ?_⟩
    rw [List.mem_append, List.mem_singleton] at hu
    simp only [List.mem_cons, List.not_mem_nil, or_false] at hy
    rcases hu with hu | hu
    · have := hx u hu; omega
    · omega
  by_cases x1 : x = 1
  · exact ⟨_, _, _, Ev.bind e1 (evBind0 e2 (evNeg x0 (evPos x1 (Ev.now _)))), ⟨by simp, by simp⟩, hc2⟩
  by_cases x2 : x = 2
  · obtain ⟨y, i3, h3, e3, hy, hc3⟩ := spec_l1PickInt_dr c i2 h2 [17, 20, 15, 300] (by decide) hc2 hl
    obtain ⟨z, i4, h4, e4, hz, hc4⟩ := spec_l1PickInt_dr c i3 h3 [15, 20, 16, 0] (by decide) hc3 hl
    refine ⟨_, _, _, Ev.bind e1 (evBind0 e2 (evNeg x0 (evNeg x1 (evPos x2 (evBind0 e3 (evBind0 e4 (Ev.now _))))))), ?_, hc4⟩
    dsimp only
    refine ⟨by simp, fun u hu => ?_⟩
    simp only [List.mem_cons, List.not_mem_nil, or_false] at hu hy hz; omega
  · exact ⟨_, _, _, Ev.bind e1 (evBind0 e2 (evNeg x0 (evNeg x1 (evNeg x2 (Ev.now _))))), ⟨by dsimp only; omega, fun u hu => by have := hx u hu; omega⟩, hc2⟩

theorem spec_DrawIndexOf_dr (c : List Int) (hl : c.length ≤ 1048576) : ∃ s p, Ev (fun k => spec_DrawIndexOf.f k c) (s, p) ∧ s.length ≤ 4 ∧ -1 ≤ p ∧ p ≤ 301 := by
  unfold spec_DrawIndexOf.f
  obtain ⟨h0, e0⟩ := spec_l1New_dr c hl
  obtain ⟨s, i1, h1, e1, ⟨hs, _⟩, hc1⟩ := spec_l2Draw_dr c 0 h0 (cu0 c) hl
  have hz := szOf_ge s
  have hw : wrap64 (szOf s + 1) = szOf s + 1 := w64 (by omega) (by omega)
  obtain ⟨x, i2, h2, e2, hx, hc2⟩ := spec_l1Below_dr c i1 h1 (wrap64 (szOf s + 1)) hc1 hl
  obtain ⟨y, i3, h3, e3, hy, hc3⟩ := spec_l1Below_dr c i2 h2 20 hc2 hl
  refine ⟨_, _, Ev.bind e0 (Ev.bind e1 (Ev.bind (spec_SizeOf_ev s) (evBind0 e2 (evBind0 e3 (Ev.now _))))), hs, ?_⟩
  dsimp only
  rw [hw] at hx
  have h5 : 0 ≤ Int.tdiv y 19 ∧ Int.tdiv y 19 ≤ 1 := by
    rw [Int.tdiv_eq_ediv_of_nonneg hy.1]; omega
  rw [w64 (x := Int.tdiv y 19) (by omega) (by omega), w64 (by omega) (by omega)]; omega

theorem spec_l1Max1_eq (a : Int) : spec_l1Max.f a 1 = some (if a > 1 then a else 1) := by unfold spec_l1Max.f; split <;> rfl
theorem spec_DrawPlaceOf_l0 (c s : List Int) (hl : c.length ≤ 1048576) (hs : s.length ≤ 4) (d : Nat) : ∀ (i : Nat) (x : List Int) (ci h : Int), i + d = s.length + 1 → x.length = i → Cu c ci → ∃ y, Ev (fun k => spec_DrawPlaceOf.l0 k s x (i : Int) c ci h) (s, y) ∧ y.length ≤ 5 := by
  induction d with
  | zero =>
    intro i x ci h hi hx hc
    obtain ⟨b, i1, h1, e1, hb, hc1⟩ := spec_l1Below_dr c ci h 20 hc hl
    have h5 : 0 ≤ Int.tdiv b 19 ∧ Int.tdiv b 19 ≤ 1 := by rw [Int.tdiv_eq_ediv_of_nonneg hb.1]; omega
    refine ⟨x, Ev.step (fun k => by rw [spec_DrawPlaceOf.l0]) (evBind0 e1 (evNeg ?_ (Ev.now _))), by omega⟩
    dsimp only
    rw [w64 (x := Int.tdiv b 19) (by omega) (by omega), w64 (by omega) (by omega)]; omega
  | succ d ih =>
    intro i x ci h hi hx hc
    obtain ⟨b, i1, h1, e1, hb, hc1⟩ := spec_l1Below_dr c ci h 20 hc hl
    have h5 : 0 ≤ Int.tdiv b 19 ∧ Int.tdiv b 19 ≤ 1 := by rw [Int.tdiv_eq_ediv_of_nonneg hb.1]; omega
    have hw : wrap64 ((s.length : Int) + wrap64 (Int.tdiv b 19)) = (s.length : Int) + Int.tdiv b 19 := by
      rw [w64 (x := Int.tdiv b 19) (by omega) (by omega), w64 (by omega) (by omega)]
    by_cases hlt : (i : Int) < (s.length : Int) + Int.tdiv b 19
    · have go : ∀ n i2 h2, Cu c i2 → ∃ y, Ev (fun k => (spec_l1Below.f c i2 h2 n).bind fun bt => ((spec_l1Below.f c bt.2.1 bt.2.2 25).bind fun bt2 => (if x.length < 17592186044416 then (spec_DrawPlaceOf.l0 k s (x ++ [wrap64 (bt.1 - (wrap64 (Int.tdiv bt2.1 24)))]) (wrap64 ((i : Int) + 1)) c bt2.2.1 bt2.2.2) else none))) (s, y) ∧ y.length ≤ 5 := by
        intro n i2 h2 hc2
        obtain ⟨u, i3, h3, e3, _, hc3⟩ := spec_l1Below_dr c i2 h2 n hc2 hl
        obtain ⟨v, i4, h4, e4, _, hc4⟩ := spec_l1Below_dr c i3 h3 25 hc3 hl
        obtain ⟨y, ey, hy⟩ := ih (i + 1) (x ++ [wrap64 (u - (wrap64 (Int.tdiv v 24)))]) i4 h4 (by omega) (by simp [hx]) hc4
        refine ⟨y, evBind0 e3 (evBind0 e4 (evPos (by omega) ?_)), hy⟩
        dsimp only
        rw [w64s i (by omega)]; exact ey
      have hp : (i : Int) < wrap64 ((s.length : Int) + wrap64 (Int.tdiv b 19)) := by rw [hw]; exact hlt
      by_cases h6 : (i : Int) < (s.length : Int)
      · obtain ⟨y, ey, hy⟩ := go _ i1 h1 hc1
        refine ⟨y, Ev.step (fun k => by rw [spec_DrawPlaceOf.l0]) (evBind0 e1 ?_), hy⟩
        dsimp only
        exact evPos hp (evPos h6 (evPos (by omega) (evBind0 (spec_l1Max1_eq _) ey)))
      · obtain ⟨y, ey, hy⟩ := go 1 i1 h1 hc1
        refine ⟨y, Ev.step (fun k => by rw [spec_DrawPlaceOf.l0]) (evBind0 e1 ?_), hy⟩
        dsimp only
        exact evPos hp (evNeg h6 ey)
    · have hp : ¬ (i : Int) < wrap64 ((s.length : Int) + wrap64 (Int.tdiv b 19)) := by rw [hw]; exact hlt
      exact ⟨x, Ev.step (fun k => by rw [spec_DrawPlaceOf.l0]) (evBind0 e1 (evNeg hp (Ev.now _))), by omega⟩
theorem spec_DrawPlaceOf_dr (c : List Int) (hl : c.length ≤ 1048576) : ∃ s x, Ev (fun k => spec_DrawPlaceOf.f k c) (s, x) ∧ s.length ≤ 4 ∧ x.length ≤ 5 := by
  unfold spec_DrawPlaceOf.f
  obtain ⟨h0, e0⟩ := spec_l1New_dr c hl
  obtain ⟨s, i1, h1, e1, ⟨hs, _⟩, hc1⟩ := spec_l2Draw_dr c 0 h0 (cu0 c) hl
  obtain ⟨y, ey, hy⟩ := spec_DrawPlaceOf_l0 c s hl hs (s.length + 1) 0 [] i1 h1 (by omega) rfl hc1
  exact ⟨s, y, Ev.bind e0 (Ev.bind e1 ey), hs, hy⟩

theorem indexOf_length (s : List Int) (p : Int) : (indexOf s p).length ≤ s.length := by
  unfold indexOf; split
  · rw [idx_length]; exact Nat.le_refl _
  · simp
theorem impl_ShapeSame_rfl (a : List Int) (ha : a.length ≤ 35184372088832) (h : szOf a ≥ 0) : Ev (fun k => impl_ShapeSame.f k a a) true := by
  unfold impl_ShapeSame.f
  exact Ev.bind (impl_ShapeOk_ev a) (evPos (by simpa using h) (Ev.bind (slices_Equal_ev a a ha) (evSome (by simp))))
theorem FnPlaces : laws_FnPlaces.Pure := by
  intro l _ _ _
  refine Ev.rounds (g := fun k => laws_FnPlaces.f k l) ?_
  unfold laws_FnPlaces.f
  refine evBind0 (laws_big_eq l) ?_
  by_cases hb : (l.length : Int) > 1048576
  · exact evPos (decide_eq_true hb) (Ev.now _)
  refine evNeg (by simpa using hb) ?_
  have hl : l.length ≤ 1048576 := by omega
  obtain ⟨s, p, e, hs, hp0, hp1⟩ := spec_DrawIndexOf_dr l hl
  have hi := indexOf_length s p
  refine Ev.bind e (Ev.bind (impl_IndexOf_ev s p) (Ev.bind (spec_IndexOf_ev s p) (Ev.bind (laws_sameInts_rfl _ (by omega)) (evPos rfl (Ev.bind (impl_SizeOf_ev s) (Ev.bind (spec_SizeOf_ev s) ?_))))))
  dsimp only
  rw [show (szOf s != szOf s) = false by simp]
  refine Ev.step (fun k => by rw [laws_FnPlaces.j0]) (evNeg (by simp) (Ev.bind (impl_SizeOf_ev s) ?_))
  have hbad : ¬ (0 ≤ p ∧ p ≤ szOf s - 1) → Ev (fun k => laws_FnPlaces.j1 k l s p (indexOf s p) true) true := by
    intro h
    refine Ev.step (fun k => by rw [laws_FnPlaces.j1]) (evPos rfl (evSome ?_))
    unfold indexOf; rw [if_neg h]; decide
  by_cases h1 : szOf s < 0
  · exact evPos h1 (hbad (by omega))
  refine evNeg h1 ?_
  by_cases h2 : p < 0
  · exact evPos h2 (hbad (by omega))
  refine evNeg h2 ?_
  by_cases h3 : p ≥ szOf s
  · rw [decide_eq_true h3]; exact hbad (by omega)
  rw [decide_eq_false h3]
  have h4 : 0 ≤ p ∧ p ≤ szOf s - 1 := by omega
  refine Ev.step (fun k => by rw [laws_FnPlaces.j1]) (evNeg (by simp) ?_)
  obtain ⟨s2, x, e2, hs2, hx⟩ := spec_DrawPlaceOf_dr l hl
  refine Ev.bind e2 (Ev.bind (impl_PlaceOf_ev s2 x) (Ev.bind (spec_PlaceOf_ev s2 x) (evPos rfl ?_)))
  dsimp only
  have hlen : (indexOf s p).length = s.length := by unfold indexOf; rw [if_pos h4, idx_length]
  have hj : Ev (fun k => laws_FnPlaces.j2 k s p (indexOf s p) false) true := by
    refine Ev.step (fun k => by rw [laws_FnPlaces.j2]) (evNeg (by simp) (Ev.bind (impl_PlaceOf_ev s (indexOf s p)) ?_))
    rw [place_index h4]
    refine evPos rfl (evPos (by rw [hlen]) (Ev.bind (impl_ShapeOk_ev s) (evPos (by simp; omega) (Ev.bind (impl_ShapeSame_rfl s (by omega) (by omega)) (Ev.now _)))))
  by_cases h5 : placeOf s2 x ≥ 0
  · refine evPos h5 (Ev.bind (impl_IndexOf_ev s2 _) ?_)
    rw [index_place h5]
    exact Ev.bind (laws_sameInts_rfl x (by omega)) hj
  · exact evNeg h5 hj

end Go.Proofs.Ytlaikodjcjfeiaa.Pure
