/- The law FnExactFlip answers true for each array: the program's Flip is the reference's, and what it hands back is its own memory. Conditions: those of the row's own reading alone. -/
import Derived.Test.YtcnbajdnlkcjjaaPFnExactFlipx
namespace Go.Proofs.Ytcnbajdnlkcjjaa.Pure
open Go.RowKit Go.Proofs.Ytcnbajdnlkcjjaa.PFnExactFlip Go.Proofs.YtcnbajdnlkcjjaaW.PrintWords Go.Proofs.YtcnbajdnlkcjjaaW.PrintLast Go.Proofs.YtcnbajdnlkcjjaaW.PrintMore
set_option linter.unusedVariables false
set_option linter.unusedSimpArgs false

section
variable {α β : Type}
theorem evPos {c : Prop} [Decidable c] {g h : Nat → Option α} {r : α} (hc : c) (e : Ev g r) : Ev (fun k => if c then g k else h k) r := by
  simpa only [if_pos hc] using e
theorem evNeg {c : Prop} [Decidable c] {g h : Nat → Option α} {r : α} (hc : ¬ c) (e : Ev h r) : Ev (fun k => if c then g k else h k) r := by
  simpa only [if_neg hc] using e
theorem evBind0 {o : Option α} {f : Nat → α → Option β} {a : α} {r : β} (h : o = some a) (k : Ev (fun n => f n a) r) : Ev (fun n => o.bind (f n)) r := by
  subst h; simpa only [Option.bind_some] using k
theorem evLet {a : α} {f : Nat → α → Option β} {r : β} (k : Ev (fun n => f n a) r) : Ev (fun n => (some a).bind (f n)) r := by
  simpa only [Option.bind_some] using k
theorem evEq {g : Nat → Option α} {r r' : α} (h : Ev g r) (e : r = r') : Ev g r' := e ▸ h
theorem evSomeEq {o : Option α} {r : α} (e : o = some r) : Ev (fun _ => o) r := e ▸ Ev.now r
theorem evSome {a r : α} (e : a = r) : Ev (fun _ => some a) r := e ▸ Ev.now a
end
theorem w64 {x : Int} (h : -9223372036854775808 ≤ x) (h' : x ≤ 9223372036854775807) : wrap64 x = x := by unfold wrap64; omega
theorem w64s (i : Nat) (h : i < 4611686018427387904) : wrap64 ((i : Int) + 1) = ((i + 1 : Nat) : Int) := by rw [w64] <;> omega
theorem rdn (l : List Int) (i : Nat) (h : i < l.length) : rd l (i : Int) = l[i] := by
  simp only [rd, Int.toNat_natCast, List.getD_eq_getElem?_getD, List.getElem?_eq_getElem h, Option.getD_some]
theorem wfI {x : Int} (h : (Lit.int .i64 x).wf = true) : -9223372036854775808 ≤ x ∧ x ≤ 9223372036854775807 := by
  have h2 : (decide (IntKind.i64.min ≤ x) && decide (x ≤ IntKind.i64.max)) = true := h
  rw [Bool.and_eq_true, decide_eq_true_iff, decide_eq_true_iff] at h2
  have e1 : IntKind.i64.min = -9223372036854775808 := by decide
  have e2 : IntKind.i64.max = 9223372036854775807 := by decide
  rw [e1, e2] at h2
  exact h2

/-- The product of a list. -/
def prod : List Int → Int
  | [] => 1
  | x :: l => x * prod l
/-- May these stand in a shape? -/
def inR (l : List Int) : Bool := l.all fun n => decide (0 ≤ n ∧ n ≤ 300)
/-- How many numbers an array of a shape has; -1 where the shape isn't right. -/
def szOf (l : List Int) : Int := if 3 < l.length then -1 else if inR l = true then (if prod l > 300 then -1 else prod l) else -1
theorem mul300 {a b : Int} {m n : Int} (h0 : 0 ≤ a) (h1 : a ≤ m) (h2 : 0 ≤ b) (h3 : b ≤ n) : 0 ≤ a * b ∧ a * b ≤ m * n :=
  ⟨Int.mul_nonneg h0 h2, Int.mul_le_mul h1 h3 h2 (Int.le_trans h0 h1)⟩
theorem shape_cases {l : List Int} (h : ¬ 3 < l.length) : l = [] ∨ (∃ a, l = [a]) ∨ (∃ a b, l = [a, b]) ∨ ∃ a b c, l = [a, b, c] := by
  match l, h with
  | [], _ => exact .inl rfl
  | [a], _ => exact .inr (.inl ⟨a, rfl⟩)
  | [a, b], _ => exact .inr (.inr (.inl ⟨a, b, rfl⟩))
  | [a, b, c], _ => exact .inr (.inr (.inr ⟨a, b, c, rfl⟩))
  | _ :: _ :: _ :: _ :: _, h => exact absurd (by simp) h
theorem inR_cons {a : Int} {l : List Int} : inR (a :: l) = true ↔ (0 ≤ a ∧ a ≤ 300) ∧ inR l = true := by
  simp [inR]
/-- A part of a shape's product stays small. -/
def pw : Nat → Int
  | 0 => 1
  | n + 1 => 300 * pw n
theorem prod_le : ∀ (l : List Int), inR l = true → 0 ≤ prod l ∧ prod l ≤ pw l.length
  | [], _ => by simp [prod, pw]
  | a :: l, h => by
    obtain ⟨⟨h0, h1⟩, h2⟩ := inR_cons.1 h
    obtain ⟨h3, h4⟩ := prod_le l h2
    exact mul300 h0 h1 h3 h4
theorem prod_append : ∀ (a b : List Int), prod (a ++ b) = prod a * prod b
  | [], b => by simp [prod]
  | x :: a, b => by simp [prod, prod_append a b, Int.mul_assoc]
theorem pw_le {n : Nat} (h : n ≤ 3) : pw n ≤ 27000000 := by
  match n, h with
  | 0, _ => decide
  | 1, _ => decide
  | 2, _ => decide
  | 3, _ => decide
theorem inR_take {l : List Int} (i : Nat) (h : inR l = true) : inR (l.take i) = true := by
  simp only [inR, List.all_eq_true] at h ⊢
  exact fun x hx => h x (List.mem_of_mem_take hx)
theorem prod_take_succ (l : List Int) (i : Nat) (h : i < l.length) : prod (l.take (i + 1)) = prod (l.take i) * l[i] := by
  rw [List.take_succ_eq_append_getElem h, prod_append]; simp [prod]
/-- The product so far is small. -/
theorem prod_take_le (l : List Int) (i : Nat) (hl : ¬ 3 < l.length) (h : inR (l.take i) = true) : 0 ≤ prod (l.take i) ∧ prod (l.take i) ≤ 27000000 := by
  obtain ⟨h0, h1⟩ := prod_le _ h
  have h2 : (l.take i).length ≤ 3 := by rw [List.length_take]; omega
  exact ⟨h0, Int.le_trans h1 (pw_le h2)⟩
theorem inR_take_succ (l : List Int) (i : Nat) (h : i < l.length) : inR (l.take (i + 1)) = true ↔ inR (l.take i) = true ∧ (0 ≤ l[i] ∧ l[i] ≤ 300) := by
  unfold inR
  rw [List.take_succ_eq_append_getElem h, List.all_append, Bool.and_eq_true]; simp
theorem inR_not {l : List Int} (i : Nat) (h : i < l.length) (hx : ¬ (0 ≤ l[i] ∧ l[i] ≤ 300)) : inR l = false := by
  rw [← Bool.not_eq_true]
  intro hh
  simp only [inR, List.all_eq_true] at hh
  exact hx (of_decide_eq_true (hh _ (List.getElem_mem h)))
theorem szOf_ge (l : List Int) : -1 ≤ szOf l ∧ szOf l ≤ 300 := by
  unfold szOf
  by_cases h1 : 3 < l.length
  · rw [if_pos h1]; omega
  · rw [if_neg h1]
    by_cases h2 : inR l = true
    · rw [if_pos h2]
      have := (prod_le l h2).1
      by_cases h3 : prod l > 300
      · rw [if_pos h3]; omega
      · rw [if_neg h3]; omega
    · rw [if_neg h2]; omega

/-- The place of an index, from a number on; -1 where the index isn't right. -/
def placeGo : Int → List Int → List Int → Int
  | a, n :: s, i :: x => if 0 ≤ i ∧ i ≤ n - 1 then placeGo (a * n + i) s x else -1
  | a, _, _ => a
def placeOf (s x : List Int) : Int := if szOf s ≥ 0 ∧ x.length = s.length then placeGo 0 s x else -1
theorem szOf_nonneg {l : List Int} (h : szOf l ≥ 0) : ¬ 3 < l.length ∧ inR l = true ∧ prod l ≤ 300 ∧ szOf l = prod l := by
  unfold szOf at h ⊢
  by_cases h1 : 3 < l.length
  · rw [if_pos h1] at h; omega
  · rw [if_neg h1] at h ⊢
    by_cases h2 : inR l = true
    · rw [if_pos h2] at h ⊢
      by_cases h3 : prod l > 300
      · rw [if_pos h3] at h; omega
      · rw [if_neg h3] at h ⊢; exact ⟨h1, h2, by omega, rfl⟩
    · rw [if_neg h2] at h; omega
def pb : Nat → Int
  | 0 => 0
  | n + 1 => 300 * pb n + 300
theorem pb_le {n : Nat} (h : n ≤ 3) : pb n ≤ 28000000 := by
  match n, h with
  | 0, _ => decide
  | 1, _ => decide
  | 2, _ => decide
  | 3, _ => decide

/-- The index of a place: the last number goes round the quickest; and what is left. -/
def idx : List Int → Int → List Int × Int
  | [], p => ([], p)
  | n :: s, p => ((idx s p).2 % n :: (idx s p).1, (idx s p).2 / n)
def indexOf (s : List Int) (p : Int) : List Int := if 0 ≤ p ∧ p ≤ szOf s - 1 then (idx s p).1 else []
theorem idx_length : ∀ (s : List Int) (p : Int), (idx s p).1.length = s.length
  | [], _ => rfl
  | n :: s, p => by simp [idx, idx_length s p]
theorem idx_le : ∀ (s : List Int) (p : Int), 0 ≤ p → (∀ n ∈ s, 0 < n) → 0 ≤ (idx s p).2 ∧ (idx s p).2 ≤ p
  | [], p, h, _ => ⟨h, Int.le_refl p⟩
  | n :: s, p, h, hp => by
    obtain ⟨h1, h2⟩ := idx_le s p h (fun m hm => hp m (List.mem_cons_of_mem _ hm))
    have hn := hp n (List.mem_cons_self ..)
    have h3 := Int.ediv_nonneg h1 (Int.le_of_lt hn)
    have h4 := Int.ediv_le_self n h1
    exact ⟨h3, Int.le_trans h4 h2⟩
theorem pos_of_prod : ∀ (l : List Int), inR l = true → 0 < prod l → ∀ n ∈ l, 0 < n
  | [], _, _, n, hn => by cases hn
  | a :: l, h, hp, n, hn => by
    obtain ⟨⟨h0, h1⟩, h2⟩ := inR_cons.1 h
    have hl := (prod_le l h2).1
    have ha : 0 < a := by
      rcases Int.lt_or_eq_of_le h0 with h | h
      · exact h
      · subst h; simp [prod] at hp
    have hl2 : 0 < prod l := by
      rcases Int.lt_or_eq_of_le hl with h | h
      · exact h
      · rw [prod, ← h, Int.mul_zero] at hp; exact absurd hp (Int.lt_irrefl 0)
    rcases List.mem_cons.1 hn with rfl | hn
    · exact ha
    · exact pos_of_prod l h2 hl2 n hn
theorem size_pos {s : List Int} {p : Int} (h : 0 ≤ p ∧ p ≤ szOf s - 1) : ¬ 3 < s.length ∧ inR s = true ∧ (∀ n ∈ s, 0 < n) ∧ p < prod s ∧ prod s ≤ 300 ∧ szOf s = prod s := by
  obtain ⟨h1, h2, h3, h4⟩ := szOf_nonneg (l := s) (by omega)
  exact ⟨h1, h2, pos_of_prod s h2 (by omega), by omega, h3, h4⟩
theorem tdivmod {q n : Int} (h : 0 ≤ q) : Int.tdiv q n = q / n ∧ Int.tmod q n = q % n := ⟨Int.tdiv_eq_ediv_of_nonneg h, Int.tmod_eq_emod_of_nonneg h⟩

theorem idx_snd : ∀ (s : List Int) (p : Int), (∀ n ∈ s, 0 < n) → (idx s p).2 = p / prod s
  | [], p, _ => by simp [idx, prod]
  | n :: s, p, h => by
    have h1 := idx_snd s p (fun m hm => h m (List.mem_cons_of_mem _ hm))
    have hp : 0 ≤ prod s := by
      have : ∀ (l : List Int), (∀ n ∈ l, 0 < n) → 0 ≤ prod l := by
        intro l
        induction l with
        | nil => intro _; decide
        | cons a l ih => intro hl; exact Int.mul_nonneg (Int.le_of_lt (hl a (List.mem_cons_self ..))) (ih (fun m hm => hl m (List.mem_cons_of_mem _ hm)))
      exact this s (fun m hm => h m (List.mem_cons_of_mem _ hm))
    show (idx s p).2 / n = p / (n * prod s)
    rw [h1, Int.ediv_ediv_of_nonneg hp, Int.mul_comm (prod s) n]
theorem placeGo_idx : ∀ (s : List Int) (p a : Int), (∀ n ∈ s, 0 < n) → placeGo a s (idx s p).1 = a * prod s + p - (idx s p).2 * prod s
  | [], p, a, _ => by simp [idx, prod, placeGo]
  | n :: s, p, a, h => by
    have hn := h n (List.mem_cons_self ..)
    have h0 := Int.emod_nonneg (idx s p).2 (show n ≠ 0 by omega)
    have h1 := Int.emod_lt_of_pos (idx s p).2 hn
    show (if 0 ≤ (idx s p).2 % n ∧ (idx s p).2 % n ≤ n - 1 then placeGo (a * n + (idx s p).2 % n) s (idx s p).1 else -1) = a * (n * prod s) + p - (idx s p).2 / n * (n * prod s)
    rw [if_pos (by omega), placeGo_idx s p _ (fun m hm => h m (List.mem_cons_of_mem _ hm))]
    have h2 := Int.mul_ediv_add_emod (idx s p).2 n
    generalize (idx s p).2 = q at *
    generalize prod s = P at *
    generalize hr : q % n = r at *
    generalize ht : q / n = t at *
    have e1 : (a * n + r) * P = a * (n * P) + r * P := by rw [Int.add_mul, Int.mul_assoc]
    have e2 : q * P = t * (n * P) + r * P := by rw [← h2, Int.add_mul, Int.mul_assoc, Int.mul_left_comm]
    rw [e1, e2]; omega
theorem place_index {s : List Int} {p : Int} (h : 0 ≤ p ∧ p ≤ szOf s - 1) : placeOf s (indexOf s p) = p := by
  obtain ⟨h1, h2, h3, h4, h5, h6⟩ := size_pos h
  unfold placeOf indexOf
  rw [if_pos h, if_pos ⟨by omega, idx_length s p⟩, placeGo_idx s p 0 h3, idx_snd s p h3, Int.ediv_eq_zero_of_lt h.1 h4]
  omega
theorem idx_placeGo : ∀ (s x : List Int) (a : Int), s.length = x.length → 0 ≤ a → placeGo a s x ≥ 0 → idx s (placeGo a s x) = (x, a)
  | [], [], a, _, _, _ => by simp [placeGo, idx]
  | [], _ :: _, _, hl, _, _ => by simp at hl
  | _ :: _, [], _, hl, _, _ => by simp at hl
  | n :: s, i :: x, a, hl, h0, h => by
    unfold placeGo at h ⊢
    by_cases hx : 0 ≤ i ∧ i ≤ n - 1
    · rw [if_pos hx] at h ⊢
      have hm := Int.mul_nonneg h0 (show 0 ≤ n by omega)
      have ih := idx_placeGo s x (a * n + i) (by simpa using hl) (by omega) h
      have e1 : (a * n + i) % n = i := by rw [Int.add_comm, Int.add_mul_emod_self_right, Int.emod_eq_of_lt hx.1 (by omega)]
      have e2 : (a * n + i) / n = a := by rw [Int.add_comm, Int.add_mul_ediv_right _ _ (by omega), Int.ediv_eq_zero_of_lt hx.1 (by omega), Int.zero_add]
      show ((idx s (placeGo (a * n + i) s x)).2 % n :: (idx s (placeGo (a * n + i) s x)).1, (idx s (placeGo (a * n + i) s x)).2 / n) = _
      rw [ih]; dsimp only; rw [e1, e2]
    · rw [if_neg hx] at h; omega
theorem placeGo_le : ∀ (s x : List Int) (a : Int), s.length = x.length → 0 ≤ a → placeGo a s x ≥ 0 → (∀ n ∈ s, 0 ≤ n) → placeGo a s x < (a + 1) * prod s
  | [], [], a, _, h0, _, _ => by simp [placeGo, prod]; omega
  | [], _ :: _, _, hl, _, _, _ => by simp at hl
  | _ :: _, [], _, hl, _, _, _ => by simp at hl
  | n :: s, i :: x, a, hl, h0, h, hn => by
    unfold placeGo at h ⊢
    by_cases hx : 0 ≤ i ∧ i ≤ n - 1
    · rw [if_pos hx] at h ⊢
      have hm := Int.mul_nonneg h0 (show 0 ≤ n by omega)
      have hp : 0 ≤ prod s := by
        have : ∀ (l : List Int), (∀ n ∈ l, 0 ≤ n) → 0 ≤ prod l := by
          intro l
          induction l with
          | nil => intro _; decide
          | cons a l ih => intro hl; exact Int.mul_nonneg (hl a (List.mem_cons_self ..)) (ih (fun m hm => hl m (List.mem_cons_of_mem _ hm)))
        exact this s (fun m hm => hn m (List.mem_cons_of_mem _ hm))
      refine Int.lt_of_lt_of_le (placeGo_le s x (a * n + i) (by simpa using hl) (by omega) h (fun m hm => hn m (List.mem_cons_of_mem _ hm))) ?_
      rw [prod, ← Int.mul_assoc]
      refine Int.mul_le_mul_of_nonneg_right ?_ hp
      rw [Int.add_mul, Int.one_mul]; omega
    · rw [if_neg hx] at h; omega
theorem index_place {s x : List Int} (h : placeOf s x ≥ 0) : indexOf s (placeOf s x) = x := by
  unfold placeOf at h ⊢
  by_cases hc : szOf s ≥ 0 ∧ x.length = s.length
  · rw [if_pos hc] at h ⊢
    obtain ⟨h1, h2, h3, h4⟩ := szOf_nonneg hc.1
    have hn : ∀ n ∈ s, 0 ≤ n := fun n hm => by
      have := List.all_eq_true.1 h2 n hm; have := of_decide_eq_true this; omega
    have h5 := placeGo_le s x 0 hc.2.symm (by omega) h hn
    rw [Int.zero_add, Int.one_mul] at h5
    unfold indexOf
    rw [if_pos (by omega), idx_placeGo s x 0 hc.2.symm (by omega) h]
  · rw [if_neg hc] at h; omega

/-- A right number. -/
def okN (x : Int) : Bool := decide (-1000000000000 ≤ x ∧ x ≤ 1000000000000)
theorem okN_t {x : Int} (h : okN x = true) : -1000000000000 ≤ x ∧ x ≤ 1000000000000 := of_decide_eq_true h
theorem okN_f {x : Int} (h : okN x = false) : ¬ (-1000000000000 ≤ x ∧ x ≤ 1000000000000) := of_decide_eq_false h

def arrayOk (s d : List Int) : Bool := decide ((d.length : Int) = szOf s) && d.all okN
theorem arrayOk_t {s d : List Int} (h : arrayOk s d = true) : (d.length : Int) = szOf s ∧ (∀ x ∈ d, okN x = true) ∧ d.length ≤ 300 ∧ s.length ≤ 3 ∧ szOf s ≥ 0 := by
  unfold arrayOk at h
  rw [Bool.and_eq_true, decide_eq_true_iff, List.all_eq_true] at h
  have h1 := szOf_ge s
  have h2 : szOf s ≥ 0 := by omega
  exact ⟨h.1, h.2, by omega, by have := (szOf_nonneg h2).1; omega, h2⟩

def okx (n i : Int) : Bool := decide (0 ≤ i ∧ i ≤ n - 1)
theorem placeGo_nn : ∀ (s x : List Int) (a : Int), s.length = x.length → 0 ≤ a → (placeGo a s x ≥ 0 ↔ (List.zipWith okx s x).all id = true)
  | [], [], a, _, h0 => by simp [placeGo]; exact h0
  | [], _ :: _, _, hl, _ => by simp at hl
  | _ :: _, [], _, hl, _ => by simp at hl
  | n :: s, i :: x, a, hl, h0 => by
    unfold placeGo
    rw [List.zipWith_cons_cons, List.all_cons, Bool.and_eq_true]
    by_cases hx : 0 ≤ i ∧ i ≤ n - 1
    · have hm := Int.mul_nonneg h0 (show 0 ≤ n by omega)
      rw [if_pos hx, placeGo_nn s x (a * n + i) (by simpa using hl) (by omega)]
      exact ⟨fun h => ⟨decide_eq_true hx, h⟩, fun h => h.2⟩
    · rw [if_neg hx]
      exact ⟨fun h => by omega, fun h => absurd (of_decide_eq_true (p := 0 ≤ i ∧ i ≤ n - 1) h.1) hx⟩
theorem prod_reverse : ∀ (s : List Int), prod s.reverse = prod s
  | [] => rfl
  | n :: s => by rw [List.reverse_cons, prod_append, prod_reverse s]; simp [prod, Int.mul_comm]
theorem szOf_reverse (s : List Int) : szOf s.reverse = szOf s := by
  unfold szOf inR; rw [List.length_reverse, List.all_reverse, prod_reverse]
/-- Where the number at a place of the flipped array comes from. -/
def src (s : List Int) (q : Int) : Int := placeOf s (indexOf s.reverse q).reverse
theorem src_facts {s : List Int} {q : Int} (h : 0 ≤ q ∧ q ≤ szOf s - 1) : 0 ≤ src s q ∧ src s q ≤ szOf s - 1 ∧ src s.reverse (src s q) = q ∧ (indexOf s.reverse q).length = s.length := by
  have hr : 0 ≤ q ∧ q ≤ szOf s.reverse - 1 := by rw [szOf_reverse]; exact h
  have hp := place_index hr
  have hl : (indexOf s.reverse q).length = s.length := by
    unfold indexOf; rw [if_pos hr, idx_length, List.length_reverse]
  obtain ⟨h1, h2, h3, h4⟩ := szOf_nonneg (l := s) (by omega)
  have hn : ∀ n ∈ s, 0 ≤ n := fun n hm => by
    have := List.all_eq_true.1 h2 n hm; have := of_decide_eq_true this; omega
  have h0 : src s q ≥ 0 ∧ src s q < szOf s := by
    have hp' : placeGo 0 s.reverse (indexOf s.reverse q) = q := by
      have := hp; unfold placeOf at this; rw [if_pos ⟨by rw [szOf_reverse]; omega, by rw [hl, List.length_reverse]⟩] at this; exact this
    have ha : (List.zipWith okx s.reverse (indexOf s.reverse q)).all id = true := (placeGo_nn _ _ 0 (by rw [hl, List.length_reverse]) (by omega)).1 (by rw [hp']; exact h.1)
    have hb : (List.zipWith okx s (indexOf s.reverse q).reverse).all id = true := by
      have e : List.zipWith okx s.reverse (indexOf s.reverse q).reverse.reverse = (List.zipWith okx s (indexOf s.reverse q).reverse).reverse := (List.reverse_zipWith (by rw [List.length_reverse, hl])).symm
      rw [List.reverse_reverse] at e
      rw [e, List.all_reverse] at ha; exact ha
    have hc := (placeGo_nn s (indexOf s.reverse q).reverse 0 (by rw [List.length_reverse, hl]) (by omega)).2 hb
    have hd := placeGo_le s (indexOf s.reverse q).reverse 0 (by rw [List.length_reverse, hl]) (by omega) hc hn
    unfold src placeOf
    rw [if_pos ⟨by omega, by rw [List.length_reverse, hl]⟩]
    exact ⟨hc, by omega⟩
  refine ⟨h0.1, by omega, ?_, hl⟩
  have e : indexOf s (src s q) = (indexOf s.reverse q).reverse := index_place (s := s) (x := (indexOf s.reverse q).reverse) h0.1
  show placeOf s.reverse (indexOf s.reverse.reverse (src s q)).reverse = q
  rw [List.reverse_reverse, e, List.reverse_reverse, hp]
def flip (s d : List Int) : List Int × List Int × Int := if arrayOk s d = true then (s.reverse, (List.range d.length).map (fun q : Nat => rd d (src s (q : Int))), 0) else ([], [], 1)
theorem flip_len (s d : List Int) (hs : s.length ≤ 1048576) (hd : d.length ≤ 1048576) : (flip s d).1.length ≤ 1048576 ∧ (flip s d).2.1.length ≤ 1048576 := by
  unfold flip; split <;> simp <;> omega

theorem impl_within_eq (a b c : Int) : impl_within.f a b c = some (decide (b ≤ a ∧ a ≤ c)) := by
  unfold impl_within.f
  by_cases h : a ≥ b
  · rw [if_pos h]; congr 1; rw [Bool.eq_iff_iff, decide_eq_true_iff, decide_eq_true_iff]; omega
  · rw [if_neg h]; congr 1; symm; rw [decide_eq_false_iff_not]; omega

theorem impl_SizeOf_l0 (l : List Int) (hl : ¬ 3 < l.length) (d : Nat) : ∀ (i : Nat), i + d = l.length → inR (l.take i) = true → Ev (fun k => impl_SizeOf.l0 k (prod (l.take i)) l (l.length : Int) (i : Int)) (if inR l = true then (if prod l > 300 then -1 else prod l) else -1) := by
  induction d with
  | zero =>
    intro i hi hr
    have e : l.take i = l := List.take_of_length_le (by omega)
    rw [e] at hr ⊢
    rw [if_pos hr]
    refine Ev.step (f := fun _ => some (if prod l > 300 then -1 else prod l)) (fun k => ?_) (Ev.now _)
    simp only [impl_SizeOf.l0]; rw [if_neg (by omega)]
    by_cases h : prod l > 300
    · rw [if_pos h, if_pos h]
    · rw [if_neg h, if_neg h]
  | succ d ih =>
    intro i hi hr
    have hlt : i < l.length := by omega
    by_cases hx : 0 ≤ l[i] ∧ l[i] ≤ 300
    · have hr' := (inR_take_succ l i hlt).2 ⟨hr, hx⟩
      refine Ev.step (f := fun k => impl_SizeOf.l0 k (prod (l.take (i + 1))) l (l.length : Int) ((i + 1 : Nat) : Int)) (fun k => ?_) (ih (i + 1) (by omega) hr')
      simp only [impl_SizeOf.l0]
      rw [if_pos (by omega), if_pos (by omega), if_pos (by omega), impl_within_eq, rdn l i hlt, decide_eq_true hx]
      simp only [Option.bind_some, if_true]
      have hp := prod_take_le l (i + 1) hl hr'
      rw [w64s i (by omega), ← prod_take_succ l i hlt, w64 (by omega) (by omega)]
    · rw [if_neg (by rw [inR_not i hlt hx]; simp)]
      refine Ev.step (f := fun _ => some (-1)) (fun k => ?_) (Ev.now _)
      simp only [impl_SizeOf.l0]
      rw [if_pos (by omega), if_pos (by omega), if_pos (by omega), impl_within_eq, rdn l i hlt, decide_eq_false hx]
      rfl
theorem impl_SizeOf_ev (l : List Int) : Ev (fun k => impl_SizeOf.f k l) (szOf l) := by
  unfold impl_SizeOf.f szOf
  by_cases h : 3 < l.length
  · rw [if_pos h]; exact evPos (by omega) (Ev.now _)
  · rw [if_neg h]
    refine evNeg (by omega) ?_
    have := impl_SizeOf_l0 l h l.length 0 (by omega) (by simp [inR])
    simpa only [List.take_zero, prod, Int.ofNat_zero, Int.natCast_zero] using this

theorem impl_NumOk_eq (a : Int) : impl_NumOk.f a = some (okN a) := by
  unfold impl_NumOk.f; rw [impl_within_eq]; rfl

def p_ArrayOk1 (x : Int) : Bool := !okN x
theorem lit_ArrayOk1_eq (x : Int) : impl_ArrayOk_lit1.f x = some (p_ArrayOk1 x) := by
  unfold impl_ArrayOk_lit1.f; rw [impl_NumOk_eq]; rfl

theorem slices_IndexFunc_ArrayOk1_l0 (l : List Int) (hl : l.length ≤ 1048576) (d : Nat) : ∀ (i : Nat), i + d = l.length → (l.take i).all (fun x => !p_ArrayOk1 x) = true → ∃ r, Ev (fun k => slices_IndexFunc_ArrayOk1.l0 k l (l.length : Int) (i : Int)) r ∧ decide (r ≥ 0) = l.any p_ArrayOk1 := by
  induction d with
  | zero =>
    intro i hi ht
    refine ⟨-1, Ev.step (f := fun _ => some (-1)) (fun k => ?_) (Ev.now _), ?_⟩
    · simp only [slices_IndexFunc_ArrayOk1.l0]; rw [if_neg (by omega)]
    · have e : l.take i = l := List.take_of_length_le (by omega)
      rw [e] at ht
      symm; rw [show decide ((-1 : Int) ≥ 0) = false by decide, List.any_eq_false]
      intro x hx
      have := List.all_eq_true.1 ht x hx
      simpa using this
  | succ d ih =>
    intro i hi ht
    have hlt : i < l.length := by omega
    by_cases hx : p_ArrayOk1 l[i] = true
    · refine ⟨(i : Int), Ev.step (f := fun _ => some (i : Int)) (fun k => ?_) (Ev.now _), ?_⟩
      · simp only [slices_IndexFunc_ArrayOk1.l0]
        rw [if_pos (by omega), if_pos (by omega), if_pos (by omega), lit_ArrayOk1_eq, rdn l i hlt]; simp only [Option.bind_some]; rw [if_pos hx]
      · rw [decide_eq_true (by omega)]; symm; rw [List.any_eq_true]; exact ⟨_, List.getElem_mem hlt, hx⟩
    · obtain ⟨r, hr, h2⟩ := ih (i + 1) (by omega) (by rw [List.take_succ_eq_append_getElem hlt, List.all_append, ht]; simp [hx])
      refine ⟨r, Ev.step (f := fun k => slices_IndexFunc_ArrayOk1.l0 k l (l.length : Int) ((i + 1 : Nat) : Int)) (fun k => ?_) hr, h2⟩
      simp only [slices_IndexFunc_ArrayOk1.l0]
      rw [if_pos (by omega), if_pos (by omega), if_pos (by omega), lit_ArrayOk1_eq, rdn l i hlt]; simp only [Option.bind_some]; rw [if_neg hx, w64s i (by omega)]
theorem slices_ContainsFunc_ArrayOk1_ev (l : List Int) (hl : l.length ≤ 1048576) : Ev (fun k => slices_ContainsFunc_ArrayOk1.f k l) (l.any p_ArrayOk1) := by
  unfold slices_ContainsFunc_ArrayOk1.f slices_IndexFunc_ArrayOk1.f
  obtain ⟨r, hr, h⟩ := slices_IndexFunc_ArrayOk1_l0 l hl l.length 0 (by omega) (by simp)
  exact Ev.bind hr (evSome h)

theorem all_okN (d : List Int) : (!d.any p_ArrayOk1) = d.all okN := by
  rw [List.not_any_eq_all_not]; congr 1; funext x; simp [p_ArrayOk1]
theorem impl_ArrayOk_ev (s d : List Int) (hd : d.length ≤ 1048576) : Ev (fun k => impl_ArrayOk.f k s d) (arrayOk s d) := by
  unfold impl_ArrayOk.f arrayOk
  refine Ev.bind (impl_SizeOf_ev s) ?_
  by_cases h : (d.length : Int) = szOf s
  · exact evPos h (Ev.bind (slices_ContainsFunc_ArrayOk1_ev d hd) (evSome (by rw [all_okN, decide_eq_true h]; rfl)))
  · exact evNeg h (evSome (by rw [decide_eq_false h]; rfl))

theorem slices_Reverse_ev (l : List Int) (h : l.length ≤ 3) : Ev (fun k => slices_Reverse_int_int.f k l) l.reverse := by
  unfold slices_Reverse_int_int.f
  have e0 : wrap64 0 = 0 := w64 (by omega) (by omega)
  have e1 : wrap64 (-1) = -1 := w64 (by omega) (by omega)
  have e2 : wrap64 1 = 1 := w64 (by omega) (by omega)
  have e3 : wrap64 2 = 2 := w64 (by omega) (by omega)
  refine ⟨3, fun k hk => ?_⟩
  obtain ⟨m, rfl⟩ : ∃ m, k = m + 3 := ⟨k - 3, by omega⟩
  rcases shape_cases (l := l) (by omega) with rfl | ⟨a, rfl⟩ | ⟨a, b, rfl⟩ | ⟨a, b, c, rfl⟩ <;> simp [slices_Reverse_int_int.l0, rd, e0, e1, e2, e3]

theorem impl_copyArray_eq (s d : List Int) (hs : s.length ≤ 1048576) (hd : d.length ≤ 1048576) : impl_copyArray.f s d = some (s, d) := by
  unfold impl_copyArray.f
  rw [if_pos (by rw [List.length_nil]; omega), if_pos (by rw [List.length_nil]; omega)]; rfl

theorem impl_IndexOf_l0 (s : List Int) (p : Int) (hp : 0 ≤ p) (hp2 : p ≤ 1000) (hs : ¬ 3 < s.length) (hpos : ∀ n ∈ s, 0 < n) : ∀ (i : Nat) (m : List Int), i ≤ s.length → m.length = s.length → m.drop i = (idx (s.drop i) p).1 → Ev (fun k => impl_IndexOf.l0 k s (idx (s.drop i) p).2 m ((i : Int) - 1)) (idx s p).1 := by
  intro i
  induction i with
  | zero =>
    intro m _ hm ht
    refine Ev.step (f := fun _ => some m) (fun k => ?_) (evSome (by simpa using ht))
    simp only [impl_IndexOf.l0]; rw [if_neg (by omega)]
  | succ i ih =>
    intro m hi hm ht
    have hlt : i < s.length := by omega
    have hn : 0 < s[i] := hpos _ (List.getElem_mem hlt)
    obtain ⟨hq0, hq1⟩ := idx_le (s.drop (i + 1)) p hp (fun n hn => hpos n (List.mem_of_mem_drop hn))
    have e := List.drop_eq_getElem_cons hlt
    refine Ev.step (f := fun k => impl_IndexOf.l0 k s (idx (s.drop i) p).2 (m.set i ((idx (s.drop (i + 1)) p).2 % s[i])) ((i : Int) - 1)) (fun k => ?_) (ih (m.set i ((idx (s.drop (i + 1)) p).2 % s[i])) (by omega) (by rw [List.length_set, hm]) ?_)
    · simp only [impl_IndexOf.l0]
      have e1 : ((i + 1 : Nat) : Int) - 1 = (i : Int) := by omega
      rw [e1, if_pos (by omega), if_pos (by omega), if_pos (by omega), rdn s i hlt, if_neg (by omega), if_pos (by omega), (tdivmod hq0).1, (tdivmod hq0).2, Int.toNat_natCast]
      have h3 := Int.ediv_nonneg hq0 (Int.le_of_lt hn)
      have h4 := Int.ediv_le_self s[i] hq0
      rw [w64 (x := (idx (s.drop (i + 1)) p).2 / s[i]) (by omega) (by omega), w64 (x := (i : Int) - 1) (by omega) (by omega), e]
      rfl
    · rw [e, List.drop_eq_getElem_cons (by rw [List.length_set]; omega), List.getElem_set_self, List.drop_set_of_lt (by omega), ht]
      rfl
theorem impl_IndexOf_ev (s : List Int) (p : Int) : Ev (fun k => impl_IndexOf.f k s p) (indexOf s p) := by
  unfold impl_IndexOf.f indexOf
  refine Ev.bind (impl_SizeOf_ev s) ?_
  have hg := szOf_ge s
  refine evBind0 (by rw [impl_within_eq, w64 (by omega) (by omega)]) ?_
  by_cases h : 0 ≤ p ∧ p ≤ szOf s - 1
  · obtain ⟨h1, h2, h3, h4, h5, h6⟩ := size_pos h
    rw [if_pos h]
    refine evPos (by simpa using h) (evPos (by omega) (evPos (by omega) ?_))
    have := impl_IndexOf_l0 s p h.1 (by omega) h1 h3 s.length (List.replicate s.length 0) (Nat.le_refl _) (by simp) (by simp [idx])
    rw [w64 (by omega) (by omega)]
    simpa [idx] using this
  · rw [if_neg h]
    exact evNeg (by simpa using h) (Ev.now _)

theorem impl_ShapeOk_ev (l : List Int) : Ev (fun k => impl_ShapeOk.f k l) (decide (szOf l ≥ 0)) := by
  unfold impl_ShapeOk.f
  exact Ev.bind (impl_SizeOf_ev l) (Ev.now _)

theorem impl_PlaceOf_l0 (s x : List Int) (hs : ¬ 3 < s.length) (hr : inR s = true) (hx : x.length = s.length) (d : Nat) : ∀ (i : Nat) (a : Int), i + d = s.length → 0 ≤ a → a ≤ pb i → Ev (fun k => impl_PlaceOf.l0 k x a s (s.length : Int) (i : Int)) (placeGo a (s.drop i) (x.drop i)) := by
  induction d with
  | zero =>
    intro i a hi h0 h1
    have e : s.drop i = [] := List.drop_of_length_le (by omega)
    refine Ev.step (f := fun _ => some a) (fun k => ?_) (evSome ?_)
    · simp only [impl_PlaceOf.l0]; rw [if_neg (by omega)]
    · rw [e]; rfl
  | succ d ih =>
    intro i a hi h0 h1
    have hlt : i < s.length := by omega
    have hlt' : i < x.length := by omega
    rw [List.drop_eq_getElem_cons hlt, List.drop_eq_getElem_cons hlt']
    have hr1 := ((inR_take_succ s i hlt).1 (inR_take (i + 1) hr)).2
    have hp1 : pb i ≤ 28000000 := pb_le (by omega)
    have hq : wrap64 (s[i] - 1) = s[i] - 1 := by rw [w64] <;> omega
    unfold placeGo
    by_cases hx1 : 0 ≤ x[i] ∧ x[i] ≤ s[i] - 1
    · rw [if_pos hx1]
      have hm := mul300 h0 h1 hr1.1 hr1.2
      have hp2 : pb (i + 1) = 300 * pb i + 300 := rfl
      have hu : a * s[i] + x[i] ≤ pb (i + 1) := by omega
      refine Ev.step (f := fun k => impl_PlaceOf.l0 k x (a * s[i] + x[i]) s (s.length : Int) ((i + 1 : Nat) : Int)) (fun k => ?_) (ih (i + 1) _ (by omega) (by omega) hu)
      simp only [impl_PlaceOf.l0]
      rw [if_pos (by omega), if_pos (by omega), if_pos (by omega), if_pos (by omega), impl_within_eq, rdn x i hlt', rdn s i hlt, hq, decide_eq_true hx1]
      simp only [Option.bind_some, if_true]
      rw [w64s i (by omega), w64 (x := a * s[i]) (by omega) (by omega), w64 (by omega) (by omega)]
    · rw [if_neg hx1]
      refine Ev.step (f := fun _ => some (-1)) (fun k => ?_) (Ev.now _)
      simp only [impl_PlaceOf.l0]
      rw [if_pos (by omega), if_pos (by omega), if_pos (by omega), if_pos (by omega), impl_within_eq, rdn x i hlt', rdn s i hlt, hq, decide_eq_false hx1]
      rfl
theorem impl_PlaceOf_ev (s x : List Int) : Ev (fun k => impl_PlaceOf.f k s x) (placeOf s x) := by
  unfold impl_PlaceOf.f placeOf
  refine Ev.bind (impl_ShapeOk_ev s) ?_
  by_cases h1 : szOf s ≥ 0
  · refine evPos (by simpa using h1) ?_
    obtain ⟨hl, hr, _, _⟩ := szOf_nonneg h1
    by_cases h2 : x.length = s.length
    · rw [if_pos ⟨h1, h2⟩, show ((x.length : Int) != (s.length : Int)) = false by simp [h2]]
      refine Ev.step (f := fun k => impl_PlaceOf.l0 k x 0 s (s.length : Int) 0) (fun k => ?_) (impl_PlaceOf_l0 s x hl hr h2 s.length 0 0 (by omega) (by omega) (by simp [pb]))
      simp only [impl_PlaceOf.j0]; rw [if_neg (by simp)]
    · rw [if_neg (fun h => h2 h.2), show ((x.length : Int) != (s.length : Int)) = true by simp; omega]
      refine Ev.step (f := fun _ => some (-1)) (fun k => ?_) (Ev.now _)
      rw [impl_PlaceOf.j0]; exact if_pos rfl
  · refine evNeg (by simpa using h1) ?_
    rw [if_neg (fun h => h1 h.1)]
    refine Ev.step (f := fun _ => some (-1)) (fun k => ?_) (Ev.now _)
    rw [impl_PlaceOf.j0]; exact if_pos rfl

theorem impl_Flip_l0 (s d : List Int) (hd : (d.length : Int) = szOf s) (hs : s.length ≤ 3) (h300 : d.length ≤ 300) (n : Nat) : ∀ (i : Nat) (o : List Int), i + n = d.length → o.length = d.length → (∀ q : Nat, q < d.length → src s (q : Int) < (i : Int) → rd o (q : Int) = rd d (src s (q : Int))) → Ev (fun k => impl_Flip.l0 k d (d.length : Int) (i : Int) s d s.reverse o) (s.reverse, (List.range d.length).map (fun q : Nat => rd d (src s (q : Int))), 0) := by
  induction n with
  | zero =>
    intro i o hi ho hq
    refine Ev.step (f := fun _ => some (s.reverse, o, 0)) (fun k => ?_) (evSome ?_)
    · simp only [impl_Flip.l0]; rw [if_neg (by omega)]
    have e : o = (List.range d.length).map (fun q : Nat => rd d (src s (q : Int))) := by
      refine List.ext_getElem (by simp [ho]) fun q h1 h2 => ?_
      obtain ⟨f1, f2, f3, f4⟩ := src_facts (s := s) (q := (q : Int)) (by omega)
      have := hq q (by omega) (by omega)
      rw [rdn o q h1] at this
      rw [this]; simp
    rw [e]
  | succ n ih =>
    intro i o hi ho hq
    have hi2 : 0 ≤ (i : Int) ∧ (i : Int) ≤ szOf s.reverse - 1 := by rw [szOf_reverse]; omega
    obtain ⟨f1, f2, f3, f4⟩ := src_facts (s := s.reverse) (q := (i : Int)) hi2
    rw [List.reverse_reverse] at f3 f4
    rw [szOf_reverse] at f2
    rw [List.length_reverse] at f4
    refine Ev.step (f := fun k => (impl_IndexOf.f k s (i : Int)).bind fun t235 => ((slices_Reverse_int_int.f k t235).bind fun t238 => ((impl_PlaceOf.f k s.reverse t238).bind fun t239 => (if 0 ≤ t239 then (if t239 < (o.length : Int) then (impl_Flip.l0 k d (d.length : Int) ((i + 1 : Nat) : Int) s d s.reverse (o.set (t239 : Int).toNat (rd d (i : Int)))) else (none)) else (none))))) (fun k => ?_) (Ev.bind (impl_IndexOf_ev s i) (Ev.bind (slices_Reverse_ev _ (by omega)) (Ev.bind (impl_PlaceOf_ev s.reverse _) ?_)))
    · simp only [impl_Flip.l0]; rw [if_pos (by omega), if_pos (by omega), if_pos (by omega), w64s i (by omega)]
    have e : placeOf s.reverse (indexOf s (i : Int)).reverse = src s.reverse (i : Int) := by unfold src; rw [List.reverse_reverse]
    rw [e]
    obtain ⟨t, ht⟩ : ∃ t : Nat, src s.reverse (i : Int) = (t : Int) := ⟨_, (Int.toNat_of_nonneg f1).symm⟩
    rw [ht] at f3 f2 ⊢
    refine evPos (by omega) (evPos (by omega) (ih (i + 1) _ (by omega) (by rw [List.length_set, ho]) fun q hq1 hq2 => ?_))
    rw [rdn _ q (by rw [List.length_set]; omega), List.getElem_set, Int.toNat_natCast]
    by_cases hqt : t = q
    · subst hqt; rw [if_pos rfl, f3]
    · rw [if_neg hqt, ← rdn o q (by omega)]
      refine hq q hq1 ?_
      obtain ⟨g1, g2, g3, g4⟩ := src_facts (s := s) (q := (q : Int)) (by omega)
      rcases Int.lt_or_eq_of_le (show src s (q : Int) ≤ (i : Int) by omega) with h | h
      · exact h
      · rw [h, ht] at g3; omega
theorem impl_Flip_ev (s d : List Int) (hs : s.length ≤ 1048576) (hd : d.length ≤ 1048576) : Ev (fun k => impl_Flip.f k s d) (flip s d) := by
  unfold impl_Flip.f flip
  refine Ev.bind (impl_ArrayOk_ev s d hd) ?_
  by_cases h : arrayOk s d = true
  · obtain ⟨h1, h2, h3, h4, h5⟩ := arrayOk_t h
    refine evEq (evPos h (evBind0 (impl_copyArray_eq s d hs hd) (Ev.bind (slices_Reverse_ev s h4) (impl_Flip_l0 s d h1 h4 h3 d.length 0 d (by omega) rfl ?_)))) (if_pos h).symm
    intro q hq1 hq2
    obtain ⟨g1, g2, g3, g4⟩ := src_facts (s := s) (q := (q : Int)) (by omega)
    omega
  · exact evEq (evNeg h (Ev.now _)) (if_neg h).symm

theorem spec_l1In_eq (a b c : Int) : spec_l1In.f a b c = some (decide (b ≤ a ∧ a ≤ c)) := by
  unfold spec_l1In.f
  by_cases h : a ≥ b
  · rw [if_pos h]; congr 1; rw [Bool.eq_iff_iff, decide_eq_true_iff, decide_eq_true_iff]; omega
  · rw [if_neg h]; congr 1; symm; rw [decide_eq_false_iff_not]; omega

theorem spec_SizeOf_l1 (l : List Int) (hl : ¬ 3 < l.length) (z : Bool) (hr : inR l = true) (hz : z = true → prod l = 0) (d : Nat) : ∀ (i : Nat), i + d = l.length → Ev (fun k => spec_SizeOf.l1 k l z (prod (l.take i)) (i : Int)) (if prod l > 300 then -1 else prod l) := by
  induction d with
  | zero =>
    intro i hi
    have e : l.take i = l := List.take_of_length_le (by omega)
    rw [e]
    refine Ev.step (f := fun _ => some (if prod l > 300 then -1 else prod l)) (fun k => ?_) (Ev.now _)
    simp only [spec_SizeOf.l1]; rw [if_neg (by omega)]
    by_cases h : prod l > 300
    · rw [if_pos h, if_pos h]
      rw [if_neg (by intro hh; have := hz hh; omega)]
    · rw [if_neg h, if_neg h]
  | succ d ih =>
    intro i hi
    have hlt : i < l.length := by omega
    have hr' := inR_take (i + 1) hr
    refine Ev.step (f := fun k => spec_SizeOf.l1 k l z (prod (l.take (i + 1))) ((i + 1 : Nat) : Int)) (fun k => ?_) (ih (i + 1) (by omega))
    simp only [spec_SizeOf.l1]
    have hp := prod_take_le l (i + 1) hl hr'
    rw [if_pos (by omega), if_pos (by omega), rdn l i hlt, w64s i (by omega), ← prod_take_succ l i hlt, w64 (by omega) (by omega)]
theorem prod_zero (l : List Int) (h : l.any (· == 0) = true) : prod l = 0 := by
  induction l with
  | nil => simp at h
  | cons a l ih =>
    rw [List.any_cons, Bool.or_eq_true] at h
    rcases h with h | h
    · have : a = 0 := by simpa using h
      rw [prod, this, Int.zero_mul]
    · rw [prod, ih h, Int.mul_zero]
theorem spec_SizeOf_l0 (l : List Int) (hl : ¬ 3 < l.length) (d : Nat) : ∀ (i : Nat) (z : Bool), i + d = l.length → inR (l.take i) = true → z = (l.take i).any (· == 0) → Ev (fun k => spec_SizeOf.l0 k l z (i : Int)) (if inR l = true then (if prod l > 300 then -1 else prod l) else -1) := by
  induction d with
  | zero =>
    intro i z hi hr hz
    have e : l.take i = l := List.take_of_length_le (by omega)
    rw [e] at hr hz
    rw [if_pos hr]
    refine Ev.step (f := fun k => spec_SizeOf.l1 k l z 1 0) (fun k => ?_) ?_
    · simp only [spec_SizeOf.l0]; rw [if_neg (by omega)]
    · exact spec_SizeOf_l1 l hl z hr (fun h => prod_zero l (by rw [← hz]; exact h)) l.length 0 (by omega)
  | succ d ih =>
    intro i z hi hr hz
    have hlt : i < l.length := by omega
    by_cases hx : 0 ≤ l[i] ∧ l[i] ≤ 300
    · have hr' := (inR_take_succ l i hlt).2 ⟨hr, hx⟩
      refine Ev.step (f := fun k => spec_SizeOf.l0 k l ((l.take (i + 1)).any (· == 0)) ((i + 1 : Nat) : Int)) (fun k => ?_) (ih (i + 1) _ (by omega) hr' rfl)
      simp only [spec_SizeOf.l0]
      rw [if_pos (by omega), if_pos (by omega), spec_l1In_eq, rdn l i hlt, decide_eq_true hx]
      simp only [Option.bind_some, if_true]
      rw [w64s i (by omega), List.take_succ_eq_append_getElem hlt, List.any_append, ← hz]
      cases z with
      | true => simp
      | false => simp
    · rw [if_neg (by rw [inR_not i hlt hx]; simp)]
      refine Ev.step (f := fun _ => some (-1)) (fun k => ?_) (Ev.now _)
      simp only [spec_SizeOf.l0]
      rw [if_pos (by omega), if_pos (by omega), spec_l1In_eq, rdn l i hlt, decide_eq_false hx]
      rfl
theorem spec_SizeOf_ev (l : List Int) : Ev (fun k => spec_SizeOf.f k l) (szOf l) := by
  unfold spec_SizeOf.f szOf
  by_cases h : 3 < l.length
  · rw [if_pos h]; exact evPos (by omega) (Ev.now _)
  · rw [if_neg h]
    refine evNeg (by omega) ?_
    exact spec_SizeOf_l0 l h l.length 0 false (by omega) (by simp [inR]) (by simp)

theorem spec_NumOk_eq (a : Int) : spec_NumOk.f a = some (okN a) := by
  unfold spec_NumOk.f; rw [spec_l1In_eq]; rfl

theorem spec_ArrayOk_l0 (s l : List Int) (hl : l.length ≤ 1048576) (d : Nat) : ∀ (i : Nat), i + d = l.length → (l.take i).all okN = true → Ev (fun k => spec_ArrayOk.l0 k (i : Int) s l) (l.all okN) := by
  induction d with
  | zero =>
    intro i hi ht
    refine Ev.step (f := fun _ => some true) (fun k => ?_) (evSome ?_)
    · simp only [spec_ArrayOk.l0]; rw [if_neg (by omega)]
    · rw [List.take_of_length_le (by omega)] at ht; exact ht.symm
  | succ d ih =>
    intro i hi ht
    have hlt : i < l.length := by omega
    by_cases hx : okN l[i] = true
    · refine Ev.step (f := fun k => spec_ArrayOk.l0 k ((i + 1 : Nat) : Int) s l) (fun k => ?_) (ih (i + 1) (by omega) (by rw [List.take_succ_eq_append_getElem hlt, List.all_append, ht]; simp [hx]))
      simp only [spec_ArrayOk.l0]
      rw [if_pos (by omega), if_pos (by omega), spec_NumOk_eq, rdn l i hlt]; simp only [Option.bind_some]; rw [if_pos hx, w64s i (by omega)]
    · refine Ev.step (f := fun _ => some false) (fun k => ?_) (evSome ?_)
      · simp only [spec_ArrayOk.l0]
        rw [if_pos (by omega), if_pos (by omega), spec_NumOk_eq, rdn l i hlt]; simp only [Option.bind_some]; rw [if_neg hx]
      · symm; rw [List.all_eq_false]; exact ⟨_, List.getElem_mem hlt, hx⟩
theorem spec_ArrayOk_ev (s d : List Int) (hd : d.length ≤ 1048576) : Ev (fun k => spec_ArrayOk.f k s d) (arrayOk s d) := by
  unfold spec_ArrayOk.f arrayOk
  refine Ev.bind (spec_SizeOf_ev s) ?_
  by_cases h : szOf s = (d.length : Int)
  · refine evPos h (evEq (spec_ArrayOk_l0 s d hd d.length 0 (by omega) (by simp)) ?_)
    rw [decide_eq_true h.symm]; rfl
  · exact evNeg h (evSome (by rw [decide_eq_false (fun e => h e.symm)]; rfl))

theorem spec_l5Back_ev (l : List Int) (h : l.length ≤ 3) : Ev (fun k => spec_l5Back.f k l) l.reverse := by
  unfold spec_l5Back.f
  have e0 : wrap64 0 = 0 := w64 (by omega) (by omega)
  have e1 : wrap64 (-1) = -1 := w64 (by omega) (by omega)
  have e2 : wrap64 1 = 1 := w64 (by omega) (by omega)
  have e3 : wrap64 2 = 2 := w64 (by omega) (by omega)
  refine ⟨5, fun k hk => ?_⟩
  obtain ⟨m, rfl⟩ : ∃ m, k = m + 5 := ⟨k - 5, by omega⟩
  rcases shape_cases (l := l) (by omega) with rfl | ⟨a, rfl⟩ | ⟨a, b, rfl⟩ | ⟨a, b, c, rfl⟩ <;> simp [spec_l5Back.l0, rd, e0, e1, e2, e3]

theorem spec_ShapeOk_ev (l : List Int) : Ev (fun k => spec_ShapeOk.f k l) (decide (szOf l ≥ 0)) := by
  unfold spec_ShapeOk.f
  exact Ev.bind (spec_SizeOf_ev l) (Ev.now _)

theorem spec_IndexOf_l0 (s : List Int) (p : Int) (hp : 0 ≤ p) (hp2 : p ≤ 1000) (hs : ¬ 3 < s.length) (hpos : ∀ n ∈ s, 0 < n) : ∀ (i : Nat) (m : List Int), i ≤ s.length → m.length = s.length → m.drop i = (idx (s.drop i) p).1 → Ev (fun k => spec_IndexOf.l0 k s (idx (s.drop i) p).2 m ((i : Int) - 1)) (idx s p).1 := by
  intro i
  induction i with
  | zero =>
    intro m _ hm ht
    refine Ev.step (f := fun _ => some m) (fun k => ?_) (evSome (by simpa using ht))
    simp only [spec_IndexOf.l0]; rw [if_neg (by omega)]
  | succ i ih =>
    intro m hi hm ht
    have hlt : i < s.length := by omega
    have hn : 0 < s[i] := hpos _ (List.getElem_mem hlt)
    obtain ⟨hq0, hq1⟩ := idx_le (s.drop (i + 1)) p hp (fun n hn => hpos n (List.mem_of_mem_drop hn))
    have e := List.drop_eq_getElem_cons hlt
    refine Ev.step (f := fun k => spec_IndexOf.l0 k s (idx (s.drop i) p).2 (m.set i ((idx (s.drop (i + 1)) p).2 % s[i])) ((i : Int) - 1)) (fun k => ?_) (ih (m.set i ((idx (s.drop (i + 1)) p).2 % s[i])) (by omega) (by rw [List.length_set, hm]) ?_)
    · simp only [spec_IndexOf.l0]
      have e1 : ((i + 1 : Nat) : Int) - 1 = (i : Int) := by omega
      rw [e1, if_pos (by omega), if_pos (by omega), if_pos (by omega), rdn s i hlt, if_neg (by omega), if_pos (by omega), (tdivmod hq0).1, (tdivmod hq0).2, Int.toNat_natCast]
      have h3 := Int.ediv_nonneg hq0 (Int.le_of_lt hn)
      have h4 := Int.ediv_le_self s[i] hq0
      rw [w64 (x := (idx (s.drop (i + 1)) p).2 / s[i]) (by omega) (by omega), w64 (x := (i : Int) - 1) (by omega) (by omega), e]
      rfl
    · rw [e, List.drop_eq_getElem_cons (by rw [List.length_set]; omega), List.getElem_set_self, List.drop_set_of_lt (by omega), ht]
      rfl
theorem spec_IndexOf_j0 (s : List Int) (p : Int) (b : Bool) (hb : b = !decide (0 ≤ p ∧ p ≤ szOf s - 1)) : Ev (fun k => spec_IndexOf.j0 k s p b) (indexOf s p) := by
  unfold indexOf
  have hg := szOf_ge s
  by_cases h : 0 ≤ p ∧ p ≤ szOf s - 1
  · obtain ⟨h1, h2, h3, h4, h5, h6⟩ := size_pos h
    rw [if_pos h]
    have hb' : b = false := by rw [hb, decide_eq_true h]; rfl
    subst hb'
    have := spec_IndexOf_l0 s p h.1 (by omega) h1 h3 s.length (List.replicate s.length 0) (Nat.le_refl _) (by simp) (by simp [idx])
    refine Ev.step (f := fun k => spec_IndexOf.l0 k s p (List.replicate s.length 0) ((s.length : Int) - 1)) (fun k => ?_) (by simpa [idx] using this)
    simp only [spec_IndexOf.j0]
    rw [if_neg (by simp), if_pos (by omega), if_pos (by omega), w64 (by omega) (by omega), Int.toNat_natCast]
  · rw [if_neg h]
    have hb' : b = true := by rw [hb, decide_eq_false h]; rfl
    subst hb'
    refine Ev.step (f := fun _ => some []) (fun k => ?_) (Ev.now _)
    rw [spec_IndexOf.j0]; exact if_pos rfl
theorem spec_IndexOf_ev (s : List Int) (p : Int) : Ev (fun k => spec_IndexOf.f k s p) (indexOf s p) := by
  unfold spec_IndexOf.f
  refine Ev.bind (spec_ShapeOk_ev s) ?_
  have hg := szOf_ge s
  by_cases h1 : szOf s ≥ 0
  · refine evPos (by simpa using h1) (Ev.bind (spec_SizeOf_ev s) ?_)
    refine evBind0 (by rw [spec_l1In_eq, w64 (by omega) (by omega)]) ?_
    exact spec_IndexOf_j0 s p _ rfl
  · refine evNeg (by simpa using h1) ?_
    exact spec_IndexOf_j0 s p true (by rw [decide_eq_false (by omega)]; rfl)

theorem spec_PlaceOf_l0 (s x : List Int) (hs : ¬ 3 < s.length) (hr : inR s = true) (hx : x.length = s.length) (d : Nat) : ∀ (i : Nat) (a : Int), i + d = s.length → 0 ≤ a → a ≤ pb i → Ev (fun k => spec_PlaceOf.l0 k s x a (i : Int)) (placeGo a (s.drop i) (x.drop i)) := by
  induction d with
  | zero =>
    intro i a hi h0 h1
    have e : s.drop i = [] := List.drop_of_length_le (by omega)
    refine Ev.step (f := fun _ => some a) (fun k => ?_) (evSome ?_)
    · simp only [spec_PlaceOf.l0]; rw [if_neg (by omega)]
    · rw [e]; rfl
  | succ d ih =>
    intro i a hi h0 h1
    have hlt : i < s.length := by omega
    have hlt' : i < x.length := by omega
    rw [List.drop_eq_getElem_cons hlt, List.drop_eq_getElem_cons hlt']
    have hr1 := ((inR_take_succ s i hlt).1 (inR_take (i + 1) hr)).2
    have hp1 : pb i ≤ 28000000 := pb_le (by omega)
    have hq : wrap64 (s[i] - 1) = s[i] - 1 := by rw [w64] <;> omega
    unfold placeGo
    by_cases hx1 : 0 ≤ x[i] ∧ x[i] ≤ s[i] - 1
    · rw [if_pos hx1]
      have hm := mul300 h0 h1 hr1.1 hr1.2
      have hp2 : pb (i + 1) = 300 * pb i + 300 := rfl
      have hu : a * s[i] + x[i] ≤ pb (i + 1) := by omega
      refine Ev.step (f := fun k => spec_PlaceOf.l0 k s x (a * s[i] + x[i]) ((i + 1 : Nat) : Int)) (fun k => ?_) (ih (i + 1) _ (by omega) (by omega) hu)
      simp only [spec_PlaceOf.l0]
      rw [if_pos (by omega), if_pos (by omega), if_pos (by omega), spec_l1In_eq, rdn x i hlt', rdn s i hlt, hq, decide_eq_true hx1]
      simp only [Option.bind_some, if_true]
      rw [w64s i (by omega), w64 (x := a * s[i]) (by omega) (by omega), w64 (by omega) (by omega)]
    · rw [if_neg hx1]
      refine Ev.step (f := fun _ => some (-1)) (fun k => ?_) (Ev.now _)
      simp only [spec_PlaceOf.l0]
      rw [if_pos (by omega), if_pos (by omega), if_pos (by omega), spec_l1In_eq, rdn x i hlt', rdn s i hlt, hq, decide_eq_false hx1]
      rfl
theorem spec_PlaceOf_ev (s x : List Int) : Ev (fun k => spec_PlaceOf.f k s x) (placeOf s x) := by
  unfold spec_PlaceOf.f placeOf
  refine Ev.bind (spec_ShapeOk_ev s) ?_
  by_cases h1 : szOf s ≥ 0
  · refine evPos (by simpa using h1) ?_
    obtain ⟨hl, hr, _, _⟩ := szOf_nonneg h1
    by_cases h2 : x.length = s.length
    · rw [if_pos ⟨h1, h2⟩, show ((x.length : Int) != (s.length : Int)) = false by simp [h2]]
      refine Ev.step (f := fun k => spec_PlaceOf.l0 k s x 0 0) (fun k => ?_) (spec_PlaceOf_l0 s x hl hr h2 s.length 0 0 (by omega) (by omega) (by simp [pb]))
      simp only [spec_PlaceOf.j0]; rw [if_neg (by simp)]
    · rw [if_neg (fun h => h2 h.2), show ((x.length : Int) != (s.length : Int)) = true by simp; omega]
      refine Ev.step (f := fun _ => some (-1)) (fun k => ?_) (Ev.now _)
      rw [spec_PlaceOf.j0]; exact if_pos rfl
  · refine evNeg (by simpa using h1) ?_
    rw [if_neg (fun h => h1 h.1)]
    refine Ev.step (f := fun _ => some (-1)) (fun k => ?_) (Ev.now _)
    rw [spec_PlaceOf.j0]; exact if_pos rfl

theorem spec_Flip_l0 (s d : List Int) (hd : (d.length : Int) = szOf s) (hs : s.length ≤ 3) (h300 : d.length ≤ 300) (n : Nat) : ∀ (i : Nat) (o : List Int), i + n = d.length → o = (List.range i).map (fun q : Nat => rd d (src s (q : Int))) → Ev (fun k => spec_Flip.l0 k (i : Int) s d s.reverse o) (s.reverse, (List.range d.length).map (fun q : Nat => rd d (src s (q : Int))), 0) := by
  induction n with
  | zero =>
    intro i o hi ho
    refine Ev.step (f := fun _ => some (s.reverse, o, 0)) (fun k => ?_) (evSome (by subst ho; rw [show i = d.length by omega]))
    simp only [spec_Flip.l0]; rw [if_neg (by omega)]
  | succ n ih =>
    intro i o hi ho
    obtain ⟨f1, f2, f3, f4⟩ := src_facts (s := s) (q := (i : Int)) (by omega)
    have ho2 : o.length = i := by subst ho; simp
    refine Ev.step (f := fun k => (spec_IndexOf.f k s.reverse (i : Int)).bind fun t176 => ((spec_l5Back.f k t176).bind fun t179 => ((spec_PlaceOf.f k s t179).bind fun t182 => (if 0 ≤ t182 then (if t182 < (d.length : Int) then (if o.length < 17592186044416 then (spec_Flip.l0 k ((i + 1 : Nat) : Int) s d s.reverse (o ++ [rd d t182])) else (none)) else (none)) else (none))))) (fun k => ?_) (Ev.bind (spec_IndexOf_ev s.reverse i) (Ev.bind (spec_l5Back_ev _ (by omega)) (Ev.bind (spec_PlaceOf_ev s _) ?_)))
    · simp only [spec_Flip.l0]; rw [if_pos (by omega), w64s i (by omega)]
    have e : placeOf s (indexOf s.reverse (i : Int)).reverse = src s (i : Int) := rfl
    rw [e]
    refine evPos f1 (evPos (by omega) (evPos (by omega) (ih (i + 1) _ (by omega) ?_)))
    rw [ho, List.range_succ, List.map_append]; rfl
theorem spec_Flip_ev (s d : List Int) (hd : d.length ≤ 1048576) : Ev (fun k => spec_Flip.f k s d) (flip s d) := by
  unfold spec_Flip.f flip
  refine Ev.bind (spec_ArrayOk_ev s d hd) ?_
  by_cases h : arrayOk s d = true
  · obtain ⟨h1, h2, h3, h4, h5⟩ := arrayOk_t h
    refine evEq (evPos h (Ev.bind (spec_l5Back_ev s h4) (spec_Flip_l0 s d h1 h4 h3 d.length 0 [] (by omega) rfl))) (if_pos h).symm
  · exact evEq (evNeg h (Ev.now _)) (if_neg h).symm

theorem laws_szIntS_eq (a : List Int) (n : Int) (ha : a.length ≤ 9223372036854775807) (h0 : 0 ≤ n) (h1 : n ≤ 1048576) : ∃ v, laws_szIntS.f a n = some v ∧ (v < 0 ∨ (0 ≤ v ∧ v ≤ n ∧ a.length ≤ 1048576)) := by
  unfold laws_szIntS.f
  rw [w64 (by omega) (by omega)]
  by_cases h : n - (a.length : Int) < 0
  · rw [if_pos h]; exact ⟨_, rfl, .inl (by omega)⟩
  · rw [if_neg h]; exact ⟨_, rfl, .inr (by omega)⟩
theorem laws_szArray_eq (a b : List Int) (n : Int) (ha : a.length ≤ 9223372036854775807) (hb : b.length ≤ 9223372036854775807) (h0 : 0 ≤ n) (h1 : n ≤ 1048576) : ∃ v, laws_szArray.f a b n = some v ∧ (v < 0 ∨ (0 ≤ v ∧ v ≤ 1048576 ∧ a.length ≤ 1048576 ∧ b.length ≤ 1048576)) := by
  unfold laws_szArray.f
  obtain ⟨v, hv, h⟩ := laws_szIntS_eq a n ha h0 h1
  rw [hv, Option.bind_some]
  rcases h with h | ⟨h2, h3, h4⟩
  · rw [if_pos h]; exact ⟨_, rfl, .inl (by omega)⟩
  · rw [if_neg (by omega)]
    obtain ⟨u, hu, h5⟩ := laws_szIntS_eq b v hb h2 (by omega)
    rw [hu, Option.bind_some]
    rcases h5 with h5 | ⟨h6, h7, h8⟩
    · rw [if_pos h5]; exact ⟨_, rfl, .inl (by omega)⟩
    · rw [if_neg (by omega)]; exact ⟨_, rfl, .inr (by omega)⟩

theorem laws_toIntS_l0 (l : List Int) (hl : l.length ≤ 35184372088832) (d : Nat) : ∀ (i : Nat) (m : List Int), i + d = l.length → m.length = l.length → m.take i = l.take i → Ev (fun k => laws_toIntS.l0 k l m (i : Int)) l := by
  induction d with
  | zero =>
    intro i m hi hm ht
    have e : m = l := by rw [List.take_of_length_le (by omega), List.take_of_length_le (by omega)] at ht; exact ht
    refine Ev.step (f := fun _ => some l) (fun k => ?_) (Ev.now _)
    simp only [laws_toIntS.l0]; rw [if_neg (by omega), e]
  | succ d ih =>
    intro i m hi hm ht
    have hlt : i < l.length := by omega
    refine Ev.step (f := fun k => laws_toIntS.l0 k l (m.set i l[i]) ((i + 1 : Nat) : Int)) (fun k => ?_) (ih (i + 1) (m.set i l[i]) (by omega) (by rw [List.length_set, hm]) ?_)
    · simp only [laws_toIntS.l0]
      rw [if_pos (by omega), if_pos (by omega), if_pos (by omega), rdn l i hlt, w64s i (by omega), Int.toNat_natCast]
    · rw [List.take_succ_eq_append_getElem (l := m.set i l[i]) (i := i) (by rw [List.length_set]; omega), List.take_succ_eq_append_getElem hlt, List.getElem_set_self, List.take_set_of_le (Nat.le_refl i), ht]
theorem laws_toIntS_ev (l : List Int) (hl : l.length ≤ 35184372088832) : Ev (fun k => laws_toIntS.f k l) l := by
  unfold laws_toIntS.f
  refine evPos (by omega) (evPos (by omega) ?_)
  exact laws_toIntS_l0 l hl l.length 0 _ (by omega) (by simp) (by simp)

theorem laws_toArray_ev (a b : List Int) (ha : a.length ≤ 1048576) (hb : b.length ≤ 1048576) : Ev (fun k => laws_toArray.f k a b) (a, b) := by
  unfold laws_toArray.f
  exact Ev.bind (laws_toIntS_ev a (by omega)) (Ev.bind (laws_toIntS_ev b (by omega)) (Ev.now _))

theorem laws_eqIntS_l0 (l m : List Int) (hl : l.length ≤ 35184372088832) (hm : l.length = m.length) (d : Nat) : ∀ (i : Nat), i + d = l.length → Ev (fun k => laws_eqIntS.l0 k l m (i : Int)) (decide (l.drop i = m.drop i)) := by
  induction d with
  | zero =>
    intro i hi
    refine Ev.step (f := fun _ => some (decide (l.drop i = m.drop i))) (fun k => ?_) (Ev.now _)
    simp only [laws_eqIntS.l0]
    rw [if_neg (by omega), List.drop_of_length_le (by omega), List.drop_of_length_le (by omega)]; simp
  | succ d ih =>
    intro i hi
    have hlt : i < l.length := by omega
    have hlt' : i < m.length := by omega
    have e1 := List.drop_eq_getElem_cons hlt
    have e2 := List.drop_eq_getElem_cons hlt'
    by_cases hx : l[i] = m[i]
    · refine Ev.step (f := fun k => laws_eqIntS.l0 k l m ((i + 1 : Nat) : Int)) (fun k => ?_) (evEq (ih (i + 1) (by omega)) ?_)
      · simp only [laws_eqIntS.l0]
        rw [if_pos (by omega), if_pos (by omega), if_pos (by omega), rdn l i hlt, rdn m i hlt', if_pos hx, w64s i (by omega)]
      · rw [e1, e2, hx]; simp only [List.cons.injEq, true_and]
    · refine Ev.step (f := fun _ => some false) (fun k => ?_) (evSome ?_)
      · simp only [laws_eqIntS.l0]
        rw [if_pos (by omega), if_pos (by omega), if_pos (by omega), rdn l i hlt, rdn m i hlt', if_neg hx]
      · rw [e1, e2]; symm; rw [decide_eq_false_iff_not]; intro h; exact hx (List.cons.inj h).1
theorem laws_eqIntS_ev (l m : List Int) (hl : l.length ≤ 35184372088832) : Ev (fun k => laws_eqIntS.f k l m) (decide (l = m)) := by
  unfold laws_eqIntS.f
  by_cases h : l.length = m.length
  · refine evPos (by omega) ?_
    exact laws_eqIntS_l0 l m hl h l.length 0 (by omega)
  · refine evNeg (by omega) (evSome ?_)
    symm; rw [decide_eq_false_iff_not]; intro e; exact h (by rw [e])
theorem laws_eqIntS_rfl (l : List Int) (hl : l.length ≤ 35184372088832) : Ev (fun k => laws_eqIntS.f k l l) true := evEq (laws_eqIntS_ev l l hl) (by simp)

theorem laws_eqArray_ev (a b c d : List Int) (ha : a.length ≤ 35184372088832) (hb : b.length ≤ 35184372088832) : Ev (fun k => laws_eqArray.f k a b c d) (decide (a = c ∧ b = d)) := by
  unfold laws_eqArray.f
  refine Ev.bind (laws_eqIntS_ev a c ha) ?_
  by_cases h : a = c
  · refine evPos (by simpa using h) (Ev.bind (laws_eqIntS_ev b d hb) ?_)
    by_cases h2 : b = d
    · exact evPos (by simpa using h2) (evSome (by simp [h, h2]))
    · exact evNeg (by simpa using h2) (evSome (by simp [h2]))
  · exact evNeg (by simpa using h) (evSome (by simp [h]))
theorem laws_eqArray_rfl (a b : List Int) (ha : a.length ≤ 35184372088832) (hb : b.length ≤ 35184372088832) : Ev (fun k => laws_eqArray.f k a b a b) true := evEq (laws_eqArray_ev a b a b ha hb) (by simp)

/-- The numbers that a mark leaves: from a on. -/
def asc (a : Int) : Nat → List Int
  | 0 => []
  | n + 1 => a :: asc (a + 1) n
theorem asc_length : ∀ (n : Nat) (a : Int), (asc a n).length = n
  | 0, _ => rfl
  | n + 1, a => by simp [asc, asc_length n]
theorem asc_get : ∀ (n : Nat) (a : Int) (i : Nat) (h : i < (asc a n).length), (asc a n)[i] = a + i
  | 0, _, i, h => by simp [asc] at h
  | n + 1, a, 0, _ => by simp [asc]
  | n + 1, a, i + 1, h => by
    have h2 : i < (asc (a + 1) n).length := by rw [asc_length] at h ⊢; omega
    have := asc_get n (a + 1) i h2
    simp only [asc, List.getElem_cons_succ, this]; omega
theorem asc_snoc : ∀ (n : Nat) (a : Int), asc a (n + 1) = asc a n ++ [a + n]
  | 0, a => by simp [asc]
  | n + 1, a => by
    rw [asc, asc_snoc n (a + 1)]; simp only [asc, List.cons_append]; congr 3; omega

theorem laws_markIntS_l0 (n : Nat) (a : Int) (hn : n ≤ 35184372088832) (h0 : 0 ≤ a) (h1 : a ≤ 1000000000000000) (d : Nat) : ∀ (i : Nat) (m : List Int), i + d = n → m.length = n → m.take i = asc a i → Ev (fun k => laws_markIntS.l0 k m (a + i) (i : Int)) (a + n, asc a n) := by
  induction d with
  | zero =>
    intro i m hi hm ht
    have hin : i = n := by omega
    have e : m = asc a n := by rw [List.take_of_length_le (by omega)] at ht; rw [ht, hin]
    refine Ev.step (f := fun _ => some (a + (n : Int), asc a n)) (fun k => ?_) (Ev.now _)
    simp only [laws_markIntS.l0]; rw [if_neg (by omega), e, hin]
  | succ d ih =>
    intro i m hi hm ht
    refine Ev.step (f := fun k => laws_markIntS.l0 k (m.set i (a + i)) (a + ((i + 1 : Nat) : Int)) ((i + 1 : Nat) : Int)) (fun k => ?_) (ih (i + 1) (m.set i (a + i)) (by omega) (by rw [List.length_set, hm]) ?_)
    · simp only [laws_markIntS.l0]
      have e : wrap64 (a + (i : Int) + 1) = a + ((i + 1 : Nat) : Int) := by rw [w64] <;> omega
      rw [if_pos (by omega), if_pos (by omega), w64s i (by omega), Int.toNat_natCast, e]
    · rw [List.take_succ_eq_append_getElem (l := m.set i (a + i)) (i := i) (by rw [List.length_set]; omega), List.getElem_set_self, List.take_set_of_le (Nat.le_refl i), ht, asc_snoc]
theorem laws_markIntS_ev (l : List Int) (a : Int) (hl : l.length ≤ 35184372088832) (h0 : 0 ≤ a) (h1 : a ≤ 1000000000000000) : Ev (fun k => laws_markIntS.f k l a) (a + l.length, asc a l.length) := by
  unfold laws_markIntS.f
  have := laws_markIntS_l0 l.length a hl h0 h1 l.length 0 l (by omega) rfl (by simp [asc])
  simpa using this

theorem laws_markArray_ev (a b : List Int) (n : Int) (ha : a.length ≤ 35184372088832) (hb : b.length ≤ 35184372088832) (h0 : 0 ≤ n) (h1 : n ≤ 500000000000000) : Ev (fun k => laws_markArray.f k a b n) (n + a.length + b.length, asc n a.length, asc (n + a.length) b.length) := by
  unfold laws_markArray.f
  refine Ev.bind (laws_markIntS_ev a n ha h0 (by omega)) (Ev.bind (laws_markIntS_ev b _ hb (by omega) (by omega)) (Ev.now _))

theorem laws_heldIntS_l0 (n : Nat) (a : Int) (hn : n ≤ 35184372088832) (h0 : 0 ≤ a) (h1 : a ≤ 1000000000000000) (d : Nat) : ∀ (i : Nat), i + d = n → Ev (fun k => laws_heldIntS.l0 k (asc a n) (a + i) (i : Int)) (a + n) := by
  induction d with
  | zero =>
    intro i hi
    have hin : i = n := by omega
    refine Ev.step (f := fun _ => some (a + (n : Int))) (fun k => ?_) (Ev.now _)
    simp only [laws_heldIntS.l0]; rw [if_neg (by rw [asc_length]; omega), hin]
  | succ d ih =>
    intro i hi
    refine Ev.step (f := fun k => laws_heldIntS.l0 k (asc a n) (a + ((i + 1 : Nat) : Int)) ((i + 1 : Nat) : Int)) (fun k => ?_) (ih (i + 1) (by omega))
    simp only [laws_heldIntS.l0]
    have e : wrap64 (a + (i : Int) + 1) = a + ((i + 1 : Nat) : Int) := by rw [w64] <;> omega
    have hlt : i < (asc a n).length := by rw [asc_length]; omega
    rw [if_pos (by rw [asc_length]; omega), if_pos (by omega), rdn _ i hlt, asc_get n a i hlt, if_pos rfl, w64s i (by omega), e]
theorem laws_heldIntS_ev (n : Nat) (a : Int) (hl : n ≤ 35184372088832) (h0 : 0 ≤ a) (h1 : a ≤ 1000000000000000) : Ev (fun k => laws_heldIntS.f k (asc a n) a) (a + n) := by
  unfold laws_heldIntS.f
  have := laws_heldIntS_l0 n a hl h0 h1 n 0 (by omega)
  simpa using this

theorem laws_heldArray_ev (a b : Nat) (n : Int) (ha : a ≤ 35184372088832) (hb : b ≤ 35184372088832) (h0 : 0 ≤ n) (h1 : n ≤ 500000000000000) : Ev (fun k => laws_heldArray.f k (asc n a) (asc (n + a) b) n) (n + a + b) := by
  unfold laws_heldArray.f
  refine Ev.bind (laws_heldIntS_ev a n ha h0 (by omega)) (evNeg (by omega) (Ev.bind (laws_heldIntS_ev b _ hb (by omega) (by omega)) (evNeg (by omega) (Ev.now _))))

theorem FnExactFlip : ∀ (l0_0 : List Int) (l0_1 : List Int), l0_0.length ≤ maxLen → (∀ x ∈ l0_0, (Lit.int .i64 x).wf = true) → l0_1.length ≤ maxLen → (∀ x ∈ l0_1, (Lit.int .i64 x).wf = true) → ∃ k, laws_FnExactFlip.f k l0_0 l0_1 = some true := by
  intro l0_0 l0_1 hm_l0_0 hw_l0_0 hm_l0_1 hw_l0_1
  have hn_l0_0 : l0_0.length ≤ 9223372036854775807 := hm_l0_0
  have hn_l0_1 : l0_1.length ≤ 9223372036854775807 := hm_l0_1
  refine Ev.rounds (g := fun k => laws_FnExactFlip.f k l0_0 l0_1) ?_
  unfold laws_FnExactFlip.f
  obtain ⟨v0, e0, h0⟩ := laws_szArray_eq l0_0 l0_1 1048576 hn_l0_0 hn_l0_1 (by omega) (by omega)
  refine evBind0 e0 ?_
  rcases h0 with h0 | ⟨ha0, hb0, hc0, hd0⟩
  · exact evPos h0 (Ev.now _)
  refine evNeg (by omega) ?_
  have hv := flip_len l0_0 l0_1 (by omega) (by omega)
  repeat' (first
    | (dsimp only)
    | (with_reducible exact Ev.now _)
    | (with_reducible refine evPos rfl ?_)
    | (refine evNeg ?hc ?_; (case hc => first | omega | (simp; done)))
    | (refine evPos ?hc ?_; (case hc => omega))
    | (refine Ev.bind (laws_toArray_ev _ _ (by omega) (by omega)) ?_)
    | (refine Ev.bind (laws_toIntS_ev _ (by omega)) ?_)
    | (refine Ev.bind (laws_eqArray_rfl _ _ (by omega) (by omega)) ?_)
    | (refine Ev.bind (laws_eqIntS_rfl _ (by omega)) ?_)
    | (refine Ev.bind (laws_markArray_ev _ _ _ (by omega) (by omega) (by omega) (by omega)) ?_)
    | (refine Ev.bind (laws_heldArray_ev _ _ _ (by omega) (by omega) (by omega) (by omega)) ?_)
    | (refine Ev.bind (laws_markIntS_ev _ _ (by omega) (by omega) (by omega)) ?_)
    | (refine Ev.bind (laws_heldIntS_ev _ _ (by omega) (by omega) (by omega)) ?_)
    | (refine Ev.bind (spec_Flip_ev _ _ (by omega)) ?_)
    | (refine Ev.bind (impl_Flip_ev _ _ (by omega) (by omega)) ?_)
    | (refine Ev.step (fun k => by simp only [laws_FnExactFlip.j0]; rfl) ?_)
    | (refine Ev.step (fun k => by simp only [laws_FnExactFlip.j1]; rfl) ?_)
    | (refine Ev.step (fun k => by simp only [laws_FnExactFlip.j2]; rfl) ?_)
  )


end Go.Proofs.Ytcnbajdnlkcjjaa.Pure
