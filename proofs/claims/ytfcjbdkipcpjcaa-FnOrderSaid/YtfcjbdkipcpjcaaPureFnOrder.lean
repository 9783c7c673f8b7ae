/- The law FnOrder answers true for each code: drawn places one behind the other have indexes one behind the other: the last number that can grow grows, all behind it are nought. Conditions: those of the row's own reading alone. -/
import Derived.Test.YtfcjbdkipcpjcaaPFnOrderx
namespace Go.Proofs.Ytfcjbdkipcpjcaa.Pure
open Go.RowKit Go.Proofs.Ytfcjbdkipcpjcaa.PFnOrder Go.Proofs.YtfcjbdkipcpjcaaW.PrintWords Go.Proofs.YtfcjbdkipcpjcaaW.PrintLast Go.Proofs.YtfcjbdkipcpjcaaW.PrintMore
set_option linter.unusedVariables false
set_option linter.unusedSimpArgs false

section
variable {α β : Type}
theorem evPos {c : Prop} [Decidable c] {g h : Nat → Option α} {r : α} (hc : c) (e : Ev g r) : Ev (fun k => if c then g k else h k) r := by
  simpa only [if_pos hc] using e
theorem evNeg {c : Prop} [Decidable c] {g h : Nat → Option α} {r : α} (hc : ¬ c) (e : Ev h r) : Ev (fun k => if c then g k else h k) r := by
  simpa only [if_neg hc] using e
theorem evBind0 {o : Option α} {f : Nat → α → Option β} {a : α} {r : β} (h : o = some a) (k : Ev (fun n => f n a) r) : Ev (fun n => o.bind (f n)) r := by
  subst h; simpa only [Option.bind_some] using k
theorem evLet {a : α} {f : Nat → α → Option β} {r : β} (k : Ev (fun n => f n a) r) : Ev (fun n => (some a).bind (f n)) r := by
  simpa only [Option.bind_some] using k
theorem evEq {g : Nat → Option α} {r r' : α} (h : Ev g r) (e : r = r') : Ev g r' := e ▸ h
theorem evSomeEq {o : Option α} {r : α} (e : o = some r) : Ev (fun _ => o) r := e ▸ Ev.now r
theorem evSome {a r : α} (e : a = r) : Ev (fun _ => some a) r := e ▸ Ev.now a
end
theorem w64 {x : Int} (h : -9223372036854775808 ≤ x) (h' : x ≤ 9223372036854775807) : wrap64 x = x := by unfold wrap64; omega
theorem w64s (i : Nat) (h : i < 4611686018427387904) : wrap64 ((i : Int) + 1) = ((i + 1 : Nat) : Int) := by rw [w64] <;> omega
theorem rdn (l : List Int) (i : Nat) (h : i < l.length) : rd l (i : Int) = l[i] := by
  simp only [rd, Int.toNat_natCast, List.getD_eq_getElem?_getD, List.getElem?_eq_getElem h, Option.getD_some]
theorem wfI {x : Int} (h : (Lit.int .i64 x).wf = true) : -9223372036854775808 ≤ x ∧ x ≤ 9223372036854775807 := by
  have h2 : (decide (IntKind.i64.min ≤ x) && decide (x ≤ IntKind.i64.max)) = true := h
  rw [Bool.and_eq_true, decide_eq_true_iff, decide_eq_true_iff] at h2
  have e1 : IntKind.i64.min = -9223372036854775808 := by decide
  have e2 : IntKind.i64.max = 9223372036854775807 := by decide
  rw [e1, e2] at h2
  exact h2

/-- The product of a list. -/
def prod : List Int → Int
  | [] => 1
  | x :: l => x * prod l
/-- May these stand in a shape? -/
def inR (l : List Int) : Bool := l.all fun n => decide (0 ≤ n ∧ n ≤ 300)
/-- How many numbers an array of a shape has; -1 where the shape isn't right. -/
def szOf (l : List Int) : Int := if 3 < l.length then -1 else if inR l = true then (if prod l > 300 then -1 else prod l) else -1
theorem mul300 {a b : Int} {m n : Int} (h0 : 0 ≤ a) (h1 : a ≤ m) (h2 : 0 ≤ b) (h3 : b ≤ n) : 0 ≤ a * b ∧ a * b ≤ m * n :=
  ⟨Int.mul_nonneg h0 h2, Int.mul_le_mul h1 h3 h2 (Int.le_trans h0 h1)⟩
theorem shape_cases {l : List Int} (h : ¬ 3 < l.length) : l = [] ∨ (∃ a, l = [a]) ∨ (∃ a b, l = [a, b]) ∨ ∃ a b c, l = [a, b, c] := by
  match l, h with
  | [], _ => exact .inl rfl
  | [a], _ => exact .inr (.inl ⟨a, rfl⟩)
  | [a, b], _ => exact .inr (.inr (.inl ⟨a, b, rfl⟩))
  | [a, b, c], _ => exact .inr (.inr (.inr ⟨a, b, c, rfl⟩))
  | _ :: _ :: _ :: _ :: _, h => exact absurd (by simp) h
theorem inR_cons {a : Int} {l : List Int} : inR (a :: l) = true ↔ (0 ≤ a ∧ a ≤ 300) ∧ inR l = true := by
  simp [inR]
/-- A part of a shape's product stays small. -/
def pw : Nat → Int
  | 0 => 1
  | n + 1 => 300 * pw n
theorem prod_le : ∀ (l : List Int), inR l = true → 0 ≤ prod l ∧ prod l ≤ pw l.length
  | [], _ => by simp [prod, pw]
  | a :: l, h => by
    obtain ⟨⟨h0, h1⟩, h2⟩ := inR_cons.1 h
    obtain ⟨h3, h4⟩ := prod_le l h2
    exact mul300 h0 h1 h3 h4
theorem prod_append : ∀ (a b : List Int), prod (a ++ b) = prod a * prod b
  | [], b => by simp [prod]
  | x :: a, b => by simp [prod, prod_append a b, Int.mul_assoc]
theorem pw_le {n : Nat} (h : n ≤ 3) : pw n ≤ 27000000 := by
  match n, h with
  | 0, _ => decide
  | 1, _ => decide
  | 2, _ => decide
  | 3, _ => decide
theorem inR_take {l : List Int} (i : Nat) (h : inR l = true) : inR (l.take i) = true := by
  simp only [inR, List.all_eq_true] at h ⊢
  exact fun x hx => h x (List.mem_of_mem_take hx)
theorem prod_take_succ (l : List Int) (i : Nat) (h : i < l.length) : prod (l.take (i + 1)) = prod (l.take i) * l[i] := by
  rw [List.take_succ_eq_append_getElem h, prod_append]; simp [prod]
/-- The product so far is small. -/
theorem prod_take_le (l : List Int) (i : Nat) (hl : ¬ 3 < l.length) (h : inR (l.take i) = true) : 0 ≤ prod (l.take i) ∧ prod (l.take i) ≤ 27000000 := by
  obtain ⟨h0, h1⟩ := prod_le _ h
  have h2 : (l.take i).length ≤ 3 := by rw [List.length_take]; omega
  exact ⟨h0, Int.le_trans h1 (pw_le h2)⟩
theorem inR_take_succ (l : List Int) (i : Nat) (h : i < l.length) : inR (l.take (i + 1)) = true ↔ inR (l.take i) = true ∧ (0 ≤ l[i] ∧ l[i] ≤ 300) := by
  unfold inR
  rw [List.take_succ_eq_append_getElem h, List.all_append, Bool.and_eq_true]; simp
theorem inR_not {l : List Int} (i : Nat) (h : i < l.length) (hx : ¬ (0 ≤ l[i] ∧ l[i] ≤ 300)) : inR l = false := by
  rw [← Bool.not_eq_true]
  intro hh
  simp only [inR, List.all_eq_true] at hh
  exact hx (of_decide_eq_true (hh _ (List.getElem_mem h)))
theorem szOf_ge (l : List Int) : -1 ≤ szOf l ∧ szOf l ≤ 300 := by
  unfold szOf
  by_cases h1 : 3 < l.length
  · rw [if_pos h1]; omega
  · rw [if_neg h1]
    by_cases h2 : inR l = true
    · rw [if_pos h2]
      have := (prod_le l h2).1
      by_cases h3 : prod l > 300
      · rw [if_pos h3]; omega
      · rw [if_neg h3]; omega
    · rw [if_neg h2]; omega

/-- The place of an index, from a number on; -1 where the index isn't right. -/
def placeGo : Int → List Int → List Int → Int
  | a, n :: s, i :: x => if 0 ≤ i ∧ i ≤ n - 1 then placeGo (a * n + i) s x else -1
  | a, _, _ => a
def placeOf (s x : List Int) : Int := if szOf s ≥ 0 ∧ x.length = s.length then placeGo 0 s x else -1
theorem szOf_nonneg {l : List Int} (h : szOf l ≥ 0) : ¬ 3 < l.length ∧ inR l = true ∧ prod l ≤ 300 ∧ szOf l = prod l := by
  unfold szOf at h ⊢
  by_cases h1 : 3 < l.length
  · rw [if_pos h1] at h; omega
  · rw [if_neg h1] at h ⊢
    by_cases h2 : inR l = true
    · rw [if_pos h2] at h ⊢
      by_cases h3 : prod l > 300
      · rw [if_pos h3] at h; omega
      · rw [if_neg h3] at h ⊢; exact ⟨h1, h2, by omega, rfl⟩
    · rw [if_neg h2] at h; omega
def pb : Nat → Int
  | 0 => 0
  | n + 1 => 300 * pb n + 300
theorem pb_le {n : Nat} (h : n ≤ 3) : pb n ≤ 28000000 := by
  match n, h with
  | 0, _ => decide
  | 1, _ => decide
  | 2, _ => decide
  | 3, _ => decide

/-- The index of a place: the last number goes round the quickest; and what is left. -/
def idx : List Int → Int → List Int × Int
  | [], p => ([], p)
  | n :: s, p => ((idx s p).2 % n :: (idx s p).1, (idx s p).2 / n)
def indexOf (s : List Int) (p : Int) : List Int := if 0 ≤ p ∧ p ≤ szOf s - 1 then (idx s p).1 else []
theorem idx_length : ∀ (s : List Int) (p : Int), (idx s p).1.length = s.length
  | [], _ => rfl
  | n :: s, p => by simp [idx, idx_length s p]
theorem idx_le : ∀ (s : List Int) (p : Int), 0 ≤ p → (∀ n ∈ s, 0 < n) → 0 ≤ (idx s p).2 ∧ (idx s p).2 ≤ p
  | [], p, h, _ => ⟨h, Int.le_refl p⟩
  | n :: s, p, h, hp => by
    obtain ⟨h1, h2⟩ := idx_le s p h (fun m hm => hp m (List.mem_cons_of_mem _ hm))
    have hn := hp n (List.mem_cons_self ..)
    have h3 := Int.ediv_nonneg h1 (Int.le_of_lt hn)
    have h4 := Int.ediv_le_self n h1
    exact ⟨h3, Int.le_trans h4 h2⟩
theorem pos_of_prod : ∀ (l : List Int), inR l = true → 0 < prod l → ∀ n ∈ l, 0 < n
  | [], _, _, n, hn => by cases hn
  | a :: l, h, hp, n, hn => by
    obtain ⟨⟨h0, h1⟩, h2⟩ := inR_cons.1 h
    have hl := (prod_le l h2).1
    have ha : 0 < a := by
      rcases Int.lt_or_eq_of_le h0 with h | h
      · exact h
      · subst h; simp [prod] at hp
    have hl2 : 0 < prod l := by
      rcases Int.lt_or_eq_of_le hl with h | h
      · exact h
      · rw [prod, ← h, Int.mul_zero] at hp; exact absurd hp (Int.lt_irrefl 0)
    rcases List.mem_cons.1 hn with rfl | hn
    · exact ha
    · exact pos_of_prod l h2 hl2 n hn
theorem size_pos {s : List Int} {p : Int} (h : 0 ≤ p ∧ p ≤ szOf s - 1) : ¬ 3 < s.length ∧ inR s = true ∧ (∀ n ∈ s, 0 < n) ∧ p < prod s ∧ prod s ≤ 300 ∧ szOf s = prod s := by
  obtain ⟨h1, h2, h3, h4⟩ := szOf_nonneg (l := s) (by omega)
  exact ⟨h1, h2, pos_of_prod s h2 (by omega), by omega, h3, h4⟩
theorem tdivmod {q n : Int} (h : 0 ≤ q) : Int.tdiv q n = q / n ∧ Int.tmod q n = q % n := ⟨Int.tdiv_eq_ediv_of_nonneg h, Int.tmod_eq_emod_of_nonneg h⟩

theorem idx_drop_fst : ∀ (s : List Int) (p : Int) (i : Nat) (h : i < s.length), (idx s p).1[i]'(by rw [idx_length]; exact h) = (idx (s.drop (i + 1)) p).2 % s[i]
  | [], _, i, h => by simp at h
  | n :: s, p, 0, _ => by simp [idx]
  | n :: s, p, i + 1, h => by
    have := idx_drop_fst s p i (by simpa using h)
    simp only [idx, List.getElem_cons_succ, List.drop_succ_cons]; exact this
theorem idx_drop_snd (s : List Int) (p : Int) (i : Nat) (h : i < s.length) : (idx (s.drop i) p).2 = (idx (s.drop (i + 1)) p).2 / s[i] := by
  rw [List.drop_eq_getElem_cons h]; rfl
/-- Where what is carried is one more, the number grows, or is nought and the next one is carried; where it is alike, all before it is alike. -/
theorem carry {q n : Int} (hn : 0 < n) (hq : 0 ≤ q) : (q % n = n - 1 ∧ (q + 1) % n = 0 ∧ (q + 1) / n = q / n + 1) ∨ (q % n ≠ n - 1 ∧ (q + 1) % n = q % n + 1 ∧ (q + 1) / n = q / n) := by
  have h0 := Int.emod_nonneg q (show n ≠ 0 by omega)
  have h1 := Int.emod_lt_of_pos q hn
  have h2 := Int.mul_ediv_add_emod q n
  by_cases h : q % n = n - 1
  · left
    have e : q + 1 = (q / n + 1) * n := by rw [Int.add_mul, Int.one_mul, Int.mul_comm (q / n) n]; omega
    exact ⟨h, by rw [e]; exact Int.mul_emod_left _ _, by rw [e]; exact Int.mul_ediv_cancel _ (by omega)⟩
  · right
    have e : q + 1 = (q % n + 1) + (q / n) * n := by rw [Int.mul_comm (q / n) n]; omega
    refine ⟨h, ?_, ?_⟩
    · rw [e, Int.add_mul_emod_self_right, Int.emod_eq_of_lt (by omega) (by omega)]
    · rw [e, Int.add_mul_ediv_right _ _ (by omega), Int.ediv_eq_zero_of_lt (by omega) (by omega), Int.zero_add]
theorem same_before (s : List Int) (p q : Int) (i : Nat) (h : i < s.length) (he : (idx (s.drop i) p).2 = (idx (s.drop i) q).2) : ∀ j, (hj : j < i) → (idx s p).1[j]'(by rw [idx_length]; omega) = (idx s q).1[j]'(by rw [idx_length]; omega) := by
  intro j hj
  have key : ∀ d j, j + 1 + d = i → (idx (s.drop (j + 1)) p).2 = (idx (s.drop (j + 1)) q).2 := by
    intro d
    induction d with
    | zero => intro j e; have : j + 1 = i := by omega
              rw [this]; exact he
    | succ d ih =>
      intro j e
      have h2 := ih (j + 1) (by omega)
      rw [idx_drop_snd s p (j + 1) (by omega), idx_drop_snd s q (j + 1) (by omega), h2]
  rw [idx_drop_fst s p j (by omega), idx_drop_fst s q j (by omega), key (i - (j + 1)) j (by omega)]

theorem impl_within_eq (a b c : Int) : impl_within.f a b c = some (decide (b ≤ a ∧ a ≤ c)) := by
  unfold impl_within.f
  by_cases h : a ≥ b
  · rw [if_pos h]; congr 1; rw [Bool.eq_iff_iff, decide_eq_true_iff, decide_eq_true_iff]; omega
  · rw [if_neg h]; congr 1; symm; rw [decide_eq_false_iff_not]; omega

theorem impl_SizeOf_l0 (l : List Int) (hl : ¬ 3 < l.length) (d : Nat) : ∀ (i : Nat), i + d = l.length → inR (l.take i) = true → Ev (fun k => impl_SizeOf.l0 k (prod (l.take i)) l (l.length : Int) (i : Int)) (if inR l = true then (if prod l > 300 then -1 else prod l) else -1) := by
  induction d with
  | zero =>
    intro i hi hr
    have e : l.take i = l := List.take_of_length_le (by omega)
    rw [e] at hr ⊢
    rw [if_pos hr]
    refine Ev.step (f := fun _ => some (if prod l > 300 then -1 else prod l)) (fun k => ?_) (Ev.now _)
    simp only [impl_SizeOf.l0]; rw [if_neg (by omega)]
    by_cases h : prod l > 300
    · rw [if_pos h, if_pos h]
    · rw [if_neg h, if_neg h]
  | succ d ih =>
    intro i hi hr
    have hlt : i < l.length := by omega
    by_cases hx : 0 ≤ l[i] ∧ l[i] ≤ 300
    · have hr' := (inR_take_succ l i hlt).2 ⟨hr, hx⟩
      refine Ev.step (f := fun k => impl_SizeOf.l0 k (prod (l.take (i + 1))) l (l.length : Int) ((i + 1 : Nat) : Int)) (fun k => ?_) (ih (i + 1) (by omega) hr')
      simp only [impl_SizeOf.l0]
      rw [if_pos (by omega), if_pos (by omega), if_pos (by omega), impl_within_eq, rdn l i hlt, decide_eq_true hx]
      simp only [Option.bind_some, if_true]
      have hp := prod_take_le l (i + 1) hl hr'
      rw [w64s i (by omega), ← prod_take_succ l i hlt, w64 (by omega) (by omega)]
    · rw [if_neg (by rw [inR_not i hlt hx]; simp)]
      refine Ev.step (f := fun _ => some (-1)) (fun k => ?_) (Ev.now _)
      simp only [impl_SizeOf.l0]
      rw [if_pos (by omega), if_pos (by omega), if_pos (by omega), impl_within_eq, rdn l i hlt, decide_eq_false hx]
      rfl
theorem impl_SizeOf_ev (l : List Int) : Ev (fun k => impl_SizeOf.f k l) (szOf l) := by
  unfold impl_SizeOf.f szOf
  by_cases h : 3 < l.length
  · rw [if_pos h]; exact evPos (by omega) (Ev.now _)
  · rw [if_neg h]
    refine evNeg (by omega) ?_
    have := impl_SizeOf_l0 l h l.length 0 (by omega) (by simp [inR])
    simpa only [List.take_zero, prod, Int.ofNat_zero, Int.natCast_zero] using this

theorem impl_IndexOf_l0 (s : List Int) (p : Int) (hp : 0 ≤ p) (hp2 : p ≤ 1000) (hs : ¬ 3 < s.length) (hpos : ∀ n ∈ s, 0 < n) : ∀ (i : Nat) (m : List Int), i ≤ s.length → m.length = s.length → m.drop i = (idx (s.drop i) p).1 → Ev (fun k => impl_IndexOf.l0 k s (idx (s.drop i) p).2 m ((i : Int) - 1)) (idx s p).1 := by
  intro i
  induction i with
  | zero =>
    intro m _ hm ht
    refine Ev.step (f := fun _ => some m) (fun k => ?_) (evSome (by simpa using ht))
    simp only [impl_IndexOf.l0]; rw [if_neg (by omega)]
  | succ i ih =>
    intro m hi hm ht
    have hlt : i < s.length := by omega
    have hn : 0 < s[i] := hpos _ (List.getElem_mem hlt)
    obtain ⟨hq0, hq1⟩ := idx_le (s.drop (i + 1)) p hp (fun n hn => hpos n (List.mem_of_mem_drop hn))
    have e := List.drop_eq_getElem_cons hlt
    refine Ev.step (f := fun k => impl_IndexOf.l0 k s (idx (s.drop i) p).2 (m.set i ((idx (s.drop (i + 1)) p).2 % s[i])) ((i : Int) - 1)) (fun k => ?_) (ih (m.set i ((idx (s.drop (i + 1)) p).2 % s[i])) (by omega) (by rw [List.length_set, hm]) ?_)
    · simp only [impl_IndexOf.l0]
      have e1 : ((i + 1 : Nat) : Int) - 1 = (i : Int) := by omega
      rw [e1, if_pos (by omega), if_pos (by omega), if_pos (by omega), rdn s i hlt, if_neg (by omega), if_pos (by omega), (tdivmod hq0).1, (tdivmod hq0).2, Int.toNat_natCast]
      have h3 := Int.ediv_nonneg hq0 (Int.le_of_lt hn)
      have h4 := Int.ediv_le_self s[i] hq0
      rw [w64 (x := (idx (s.drop (i + 1)) p).2 / s[i]) (by omega) (by omega), w64 (x := (i : Int) - 1) (by omega) (by omega), e]
      rfl
    · rw [e, List.drop_eq_getElem_cons (by rw [List.length_set]; omega), List.getElem_set_self, List.drop_set_of_lt (by omega), ht]
      rfl
theorem impl_IndexOf_ev (s : List Int) (p : Int) : Ev (fun k => impl_IndexOf.f k s p) (indexOf s p) := by
  unfold impl_IndexOf.f indexOf
  refine Ev.bind (impl_SizeOf_ev s) ?_
  have hg := szOf_ge s
  refine evBind0 (by rw [impl_within_eq, w64 (by omega) (by omega)]) ?_
  by_cases h : 0 ≤ p ∧ p ≤ szOf s - 1
  · obtain ⟨h1, h2, h3, h4, h5, h6⟩ := size_pos h
    rw [if_pos h]
    refine evPos (by simpa using h) (evPos (by omega) (evPos (by omega) ?_))
    have := impl_IndexOf_l0 s p h.1 (by omega) h1 h3 s.length (List.replicate s.length 0) (Nat.le_refl _) (by simp) (by simp [idx])
    rw [w64 (by omega) (by omega)]
    simpa [idx] using this
  · rw [if_neg h]
    exact evNeg (by simpa using h) (Ev.now _)

theorem spec_l1In_eq (a b c : Int) : spec_l1In.f a b c = some (decide (b ≤ a ∧ a ≤ c)) := by
  unfold spec_l1In.f
  by_cases h : a ≥ b
  · rw [if_pos h]; congr 1; rw [Bool.eq_iff_iff, decide_eq_true_iff, decide_eq_true_iff]; omega
  · rw [if_neg h]; congr 1; symm; rw [decide_eq_false_iff_not]; omega

theorem spec_SizeOf_l1 (l : List Int) (hl : ¬ 3 < l.length) (z : Bool) (hr : inR l = true) (hz : z = true → prod l = 0) (d : Nat) : ∀ (i : Nat), i + d = l.length → Ev (fun k => spec_SizeOf.l1 k l z (prod (l.take i)) (i : Int)) (if prod l > 300 then -1 else prod l) := by
  induction d with
  | zero =>
    intro i hi
    have e : l.take i = l := List.take_of_length_le (by omega)
    rw [e]
    refine Ev.step (f := fun _ => some (if prod l > 300 then -1 else prod l)) (fun k => ?_) (Ev.now _)
    simp only [spec_SizeOf.l1]; rw [if_neg (by omega)]
    by_cases h : prod l > 300
    · rw [if_pos h, if_pos h]
      rw [if_neg (by intro hh; have := hz hh; omega)]
    · rw [if_neg h, if_neg h]
  | succ d ih =>
    intro i hi
    have hlt : i < l.length := by omega
    have hr' := inR_take (i + 1) hr
    refine Ev.step (f := fun k => spec_SizeOf.l1 k l z (prod (l.take (i + 1))) ((i + 1 : Nat) : Int)) (fun k => ?_) (ih (i + 1) (by omega))
    simp only [spec_SizeOf.l1]
    have hp := prod_take_le l (i + 1) hl hr'
    rw [if_pos (by omega), if_pos (by omega), rdn l i hlt, w64s i (by omega), ← prod_take_succ l i hlt, w64 (by omega) (by omega)]
theorem prod_zero (l : List Int) (h : l.any (· == 0) = true) : prod l = 0 := by
  induction l with
  | nil => simp at h
  | cons a l ih =>
    rw [List.any_cons, Bool.or_eq_true] at h
    rcases h with h | h
    · have : a = 0 := by simpa using h
      rw [prod, this, Int.zero_mul]
    · rw [prod, ih h, Int.mul_zero]
theorem spec_SizeOf_l0 (l : List Int) (hl : ¬ 3 < l.length) (d : Nat) : ∀ (i : Nat) (z : Bool), i + d = l.length → inR (l.take i) = true → z = (l.take i).any (· == 0) → Ev (fun k => spec_SizeOf.l0 k l z (i : Int)) (if inR l = true then (if prod l > 300 then -1 else prod l) else -1) := by
  induction d with
  | zero =>
    intro i z hi hr hz
    have e : l.take i = l := List.take_of_length_le (by omega)
    rw [e] at hr hz
    rw [if_pos hr]
    refine Ev.step (f := fun k => spec_SizeOf.l1 k l z 1 0) (fun k => ?_) ?_
    · simp only [spec_SizeOf.l0]; rw [if_neg (by omega)]
    · exact spec_SizeOf_l1 l hl z hr (fun h => prod_zero l (by rw [← hz]; exact h)) l.length 0 (by omega)
  | succ d ih =>
    intro i z hi hr hz
    have hlt : i < l.length := by omega
    by_cases hx : 0 ≤ l[i] ∧ l[i] ≤ 300
    · have hr' := (inR_take_succ l i hlt).2 ⟨hr, hx⟩
      refine Ev.step (f := fun k => spec_SizeOf.l0 k l ((l.take (i + 1)).any (· == 0)) ((i + 1 : Nat) : Int)) (fun k => ?_) (ih (i + 1) _ (by omega) hr' rfl)
      simp only [spec_SizeOf.l0]
      rw [if_pos (by omega), if_pos (by omega), spec_l1In_eq, rdn l i hlt, decide_eq_true hx]
      simp only [Option.bind_some, if_true]
      rw [w64s i (by omega), List.take_succ_eq_append_getElem hlt, List.any_append, ← hz]
      cases z with
      | true => simp
      | false => simp
    · rw [if_neg (by rw [inR_not i hlt hx]; simp)]
      refine Ev.step (f := fun _ => some (-1)) (fun k => ?_) (Ev.now _)
      simp only [spec_SizeOf.l0]
      rw [if_pos (by omega), if_pos (by omega), spec_l1In_eq, rdn l i hlt, decide_eq_false hx]
      rfl
theorem spec_SizeOf_ev (l : List Int) : Ev (fun k => spec_SizeOf.f k l) (szOf l) := by
  unfold spec_SizeOf.f szOf
  by_cases h : 3 < l.length
  · rw [if_pos h]; exact evPos (by omega) (Ev.now _)
  · rw [if_neg h]
    refine evNeg (by omega) ?_
    exact spec_SizeOf_l0 l h l.length 0 false (by omega) (by simp [inR]) (by simp)

theorem spec_ShapeOk_ev (l : List Int) : Ev (fun k => spec_ShapeOk.f k l) (decide (szOf l ≥ 0)) := by
  unfold spec_ShapeOk.f
  exact Ev.bind (spec_SizeOf_ev l) (Ev.now _)

theorem spec_IndexOf_l0 (s : List Int) (p : Int) (hp : 0 ≤ p) (hp2 : p ≤ 1000) (hs : ¬ 3 < s.length) (hpos : ∀ n ∈ s, 0 < n) : ∀ (i : Nat) (m : List Int), i ≤ s.length → m.length = s.length → m.drop i = (idx (s.drop i) p).1 → Ev (fun k => spec_IndexOf.l0 k s (idx (s.drop i) p).2 m ((i : Int) - 1)) (idx s p).1 := by
  intro i
  induction i with
  | zero =>
    intro m _ hm ht
    refine Ev.step (f := fun _ => some m) (fun k => ?_) (evSome (by simpa using ht))
    simp only [spec_IndexOf.l0]; rw [if_neg (by omega)]
  | succ i ih =>
    intro m hi hm ht
    have hlt : i < s.length := by omega
    have hn : 0 < s[i] := hpos _ (List.getElem_mem hlt)
    obtain ⟨hq0, hq1⟩ := idx_le (s.drop (i + 1)) p hp (fun n hn => hpos n (List.mem_of_mem_drop hn))
    have e := List.drop_eq_getElem_cons hlt
    refine Ev.step (f := fun k => spec_IndexOf.l0 k s (idx (s.drop i) p).2 (m.set i ((idx (s.drop (i + 1)) p).2 % s[i])) ((i : Int) - 1)) (fun k => ?_) (ih (m.set i ((idx (s.drop (i + 1)) p).2 % s[i])) (by omega) (by rw [List.length_set, hm]) ?_)
    · simp only [spec_IndexOf.l0]
      have e1 : ((i + 1 : Nat) : Int) - 1 = (i : Int) := by omega
      rw [e1, if_pos (by omega), if_pos (by omega), if_pos (by omega), rdn s i hlt, if_neg (by omega), if_pos (by omega), (tdivmod hq0).1, (tdivmod hq0).2, Int.toNat_natCast]
      have h3 := Int.ediv_nonneg hq0 (Int.le_of_lt hn)
      have h4 := Int.ediv_le_self s[i] hq0
      rw [w64 (x := (idx (s.drop (i + 1)) p).2 / s[i]) (by omega) (by omega), w64 (x := (i : Int) - 1) (by omega) (by omega), e]
      rfl
    · rw [e, List.drop_eq_getElem_cons (by rw [List.length_set]; omega), List.getElem_set_self, List.drop_set_of_lt (by omega), ht]
      rfl
theorem spec_IndexOf_j0 (s : List Int) (p : Int) (b : Bool) (hb : b = !decide (0 ≤ p ∧ p ≤ szOf s - 1)) : Ev (fun k => spec_IndexOf.j0 k s p b) (indexOf s p) := by
  unfold indexOf
  have hg := szOf_ge s
  by_cases h : 0 ≤ p ∧ p ≤ szOf s - 1
  · obtain ⟨h1, h2, h3, h4, h5, h6⟩ := size_pos h
    rw [if_pos h]
    have hb' : b = false := by rw [hb, decide_eq_true h]; rfl
    subst hb'
    have := spec_IndexOf_l0 s p h.1 (by omega) h1 h3 s.length (List.replicate s.length 0) (Nat.le_refl _) (by simp) (by simp [idx])
    refine Ev.step (f := fun k => spec_IndexOf.l0 k s p (List.replicate s.length 0) ((s.length : Int) - 1)) (fun k => ?_) (by simpa [idx] using this)
    simp only [spec_IndexOf.j0]
    rw [if_neg (by simp), if_pos (by omega), if_pos (by omega), w64 (by omega) (by omega), Int.toNat_natCast]
  · rw [if_neg h]
    have hb' : b = true := by rw [hb, decide_eq_false h]; rfl
    subst hb'
    refine Ev.step (f := fun _ => some []) (fun k => ?_) (Ev.now _)
    rw [spec_IndexOf.j0]; exact if_pos rfl
theorem spec_IndexOf_ev (s : List Int) (p : Int) : Ev (fun k => spec_IndexOf.f k s p) (indexOf s p) := by
  unfold spec_IndexOf.f
  refine Ev.bind (spec_ShapeOk_ev s) ?_
  have hg := szOf_ge s
  by_cases h1 : szOf s ≥ 0
  · refine evPos (by simpa using h1) (Ev.bind (spec_SizeOf_ev s) ?_)
    refine evBind0 (by rw [spec_l1In_eq, w64 (by omega) (by omega)]) ?_
    exact spec_IndexOf_j0 s p _ rfl
  · refine evNeg (by simpa using h1) ?_
    exact spec_IndexOf_j0 s p true (by rw [decide_eq_false (by omega)]; rfl)

theorem laws_sameInts_l0 (l m : List Int) (hl : l.length ≤ 35184372088832) (hm : l.length = m.length) (d : Nat) : ∀ (i : Nat), i + d = l.length → Ev (fun k => laws_sameInts.l0 k l m (i : Int)) (decide (l.drop i = m.drop i)) := by
  induction d with
  | zero =>
    intro i hi
    refine Ev.step (f := fun _ => some (decide (l.drop i = m.drop i))) (fun k => ?_) (Ev.now _)
    simp only [laws_sameInts.l0]
    rw [if_neg (by omega), List.drop_of_length_le (by omega), List.drop_of_length_le (by omega)]; simp
  | succ d ih =>
    intro i hi
    have hlt : i < l.length := by omega
    have hlt' : i < m.length := by omega
    have e1 := List.drop_eq_getElem_cons hlt
    have e2 := List.drop_eq_getElem_cons hlt'
    by_cases hx : l[i] = m[i]
    · refine Ev.step (f := fun k => laws_sameInts.l0 k l m ((i + 1 : Nat) : Int)) (fun k => ?_) (evEq (ih (i + 1) (by omega)) ?_)
      · simp only [laws_sameInts.l0]
        rw [if_pos (by omega), if_pos (by omega), if_pos (by omega), rdn l i hlt, rdn m i hlt', if_pos hx, w64s i (by omega)]
      · rw [e1, e2, hx]; simp only [List.cons.injEq, true_and]
    · refine Ev.step (f := fun _ => some false) (fun k => ?_) (evSome ?_)
      · simp only [laws_sameInts.l0]
        rw [if_pos (by omega), if_pos (by omega), if_pos (by omega), rdn l i hlt, rdn m i hlt', if_neg hx]
      · rw [e1, e2]; symm; rw [decide_eq_false_iff_not]; intro h; exact hx (List.cons.inj h).1
theorem laws_sameInts_ev (l m : List Int) (hl : l.length ≤ 35184372088832) : Ev (fun k => laws_sameInts.f k l m) (decide (l = m)) := by
  unfold laws_sameInts.f
  by_cases h : l.length = m.length
  · refine evPos (by omega) ?_
    exact laws_sameInts_l0 l m hl h l.length 0 (by omega)
  · refine evNeg (by omega) (evSome ?_)
    symm; rw [decide_eq_false_iff_not]; intro e; exact h (by rw [e])
theorem laws_sameInts_rfl (l : List Int) (hl : l.length ≤ 35184372088832) : Ev (fun k => laws_sameInts.f k l l) true := evEq (laws_sameInts_ev l l hl) (by simp)

theorem laws_big_eq (l : List Int) : laws_big.f l = some (decide ((l.length : Int) > 1048576)) := rfl

theorem and255 (x : Int) : 0 ≤ Go.bits .and .i64 x 255 ∧ Go.bits .and .i64 x 255 ≤ 255 := by
  have h : Go.bits .and .i64 x 255 = IntKind.i64.wrap (((BitVec.ofInt 64 x).toNat &&& 255 : Nat) : Int) := by
    simp only [Go.bits, BitVec.toNat_and]; rfl
  have h2 : (BitVec.ofInt 64 x).toNat &&& 255 ≤ 255 := Nat.and_le_right
  rw [h, IntKind.wrap_i64]; omega
/-- A cursor's place lies in its bytes. -/
def Cu (c : List Int) (i : Int) : Prop := 0 ≤ i ∧ i ≤ c.length
theorem spec_l1Byte_dr (c : List Int) (i h : Int) (hc : Cu c i) (hl : c.length ≤ 1048576) : ∃ x i' h', spec_l1Byte.f c i h = some (x, i', h') ∧ (0 ≤ x ∧ x ≤ 255) ∧ Cu c i' := by
  obtain ⟨h0, h1⟩ := hc
  unfold spec_l1Byte.f
  by_cases h2 : i < (c.length : Int)
  · rw [if_pos h2, if_pos h0, w64 (x := i + 1) (by omega) (by omega)]
    exact ⟨_, _, _, rfl, and255 _, by omega, by omega⟩
  · rw [if_neg h2]
    exact ⟨_, _, _, rfl, and255 _, h0, h1⟩
theorem spec_l1Below_dr (c : List Int) (i h n : Int) (hc : Cu c i) (hl : c.length ≤ 1048576) : ∃ x i' h', spec_l1Below.f c i h n = some (x, i', h') ∧ (0 ≤ x ∧ (x < n ∨ n ≤ 0 ∧ x = 0)) ∧ Cu c i' := by
  unfold spec_l1Below.f
  by_cases h1 : n ≤ 0
  · rw [if_pos h1]; exact ⟨_, _, _, rfl, ⟨by omega, .inr ⟨h1, rfl⟩⟩, hc⟩
  · rw [if_neg h1]
    by_cases h2 : n ≤ 256
    · obtain ⟨x, i', h', e, hx, hc'⟩ := spec_l1Byte_dr c i h hc hl
      rw [if_pos h2, e, Option.bind_some, if_neg (by omega)]
      have h3 := Int.tmod_eq_emod_of_nonneg (b := n) hx.1
      have h4 := Int.emod_nonneg x (show n ≠ 0 by omega)
      have h5 := Int.emod_lt_of_pos x (show 0 < n by omega)
      exact ⟨_, _, _, rfl, ⟨by rw [h3]; exact h4, .inl (by rw [h3]; exact h5)⟩, hc'⟩
    · obtain ⟨x, i1, h1', e1, hx, hc1⟩ := spec_l1Byte_dr c i h hc hl
      obtain ⟨y, i2, h2', e2, hy, hc2⟩ := spec_l1Byte_dr c i1 h1' hc1 hl
      obtain ⟨z, i3, h3', e3, hz, hc3⟩ := spec_l1Byte_dr c i2 h2' hc2 hl
      obtain ⟨u, i4, h4', e4, hu, hc4⟩ := spec_l1Byte_dr c i3 h3' hc3 hl
      rw [if_neg h2, e1, Option.bind_some]; dsimp only
      rw [e2, Option.bind_some]; dsimp only
      rw [e3, Option.bind_some]; dsimp only
      rw [e4, Option.bind_some]; dsimp only
      rw [if_neg (by omega), w64 (x := x * 16777216) (by omega) (by omega), w64 (x := y * 65536) (by omega) (by omega), w64 (x := x * 16777216 + y * 65536) (by omega) (by omega), w64 (x := z * 256) (by omega) (by omega), w64 (x := x * 16777216 + y * 65536 + z * 256) (by omega) (by omega), w64 (x := x * 16777216 + y * 65536 + z * 256 + u) (by omega) (by omega)]
      generalize hq : x * 16777216 + y * 65536 + z * 256 + u = q
      have h3 := Int.tmod_eq_emod_of_nonneg (b := n) (show 0 ≤ q by omega)
      have h4 := Int.emod_nonneg q (show n ≠ 0 by omega)
      have h5 := Int.emod_lt_of_pos q (show 0 < n by omega)
      exact ⟨_, _, _, rfl, ⟨by rw [h3]; exact h4, .inl (by rw [h3]; exact h5)⟩, hc4⟩

theorem spec_l1New_l0 (c : List Int) (hl : c.length ≤ 1048576) (d : Nat) : ∀ (i : Nat) (h : Int), i + d = c.length → ∃ h', Ev (fun k => spec_l1New.l0 k c h (i : Int)) (c, 0, h') := by
  induction d with
  | zero =>
    intro i h hi
    refine ⟨h, Ev.step (f := fun _ => some (c, 0, h)) (fun k => ?_) (Ev.now _)⟩
    simp only [spec_l1New.l0]; rw [if_neg (by omega)]
  | succ d ih =>
    intro i h hi
    by_cases h4 : (i : Int) < 4000
    · obtain ⟨h', e⟩ := ih (i + 1) (Go.bits .and .i64 (wrap64 ((wrap64 ((wrap64 (h * 131)) + (wrap64 (rd c (i : Int))))) + 7)) 1073741823) (by omega)
      refine ⟨h', Ev.step (fun k => ?_) e⟩
      simp only [spec_l1New.l0]
      rw [if_pos (by omega), if_pos h4, if_pos (by omega), w64s i (by omega)]
    · refine ⟨h, Ev.step (f := fun _ => some (c, 0, h)) (fun k => ?_) (Ev.now _)⟩
      simp only [spec_l1New.l0]; rw [if_pos (by omega), if_neg h4]
theorem spec_l1New_dr (c : List Int) (hl : c.length ≤ 1048576) : ∃ h, Ev (fun k => spec_l1New.f k c) (c, 0, h) := by
  unfold spec_l1New.f
  exact spec_l1New_l0 c hl c.length 0 _ (by omega)
theorem cu0 (c : List Int) : Cu c 0 := ⟨Int.le_refl 0, by omega⟩

theorem spec_l1PickInt_dr (c : List Int) (i h : Int) (l : List Int) (hn : 0 < l.length) (hc : Cu c i) (hl : c.length ≤ 1048576) : ∃ x i' h', spec_l1PickInt.f c i h l = some (x, i', h') ∧ x ∈ l ∧ Cu c i' := by
  obtain ⟨x, i', h', e, hx, hc'⟩ := spec_l1Below_dr c i h (l.length : Int) hc hl
  have h1 : x < (l.length : Int) := by omega
  have h2 : x.toNat < l.length := by omega
  unfold spec_l1PickInt.f; rw [e, Option.bind_some]; dsimp only
  rw [if_pos hx.1, if_pos h1]
  refine ⟨_, _, _, rfl, ?_, hc'⟩
  simp only [rd, List.getD_eq_getElem?_getD, List.getElem?_eq_getElem h2, Option.getD_some]
  exact List.getElem_mem h2

theorem spec_l2DrawRight_dr (c : List Int) (i h : Int) (hc : Cu c i) (hl : c.length ≤ 1048576) : ∃ s i' h', Ev (fun k => spec_l2DrawRight.f k c i h) (s, i', h') ∧ (s.length ≤ 3 ∧ ∀ x ∈ s, 0 ≤ x ∧ x ≤ 5) ∧ Cu c i' := by
  unfold spec_l2DrawRight.f
  obtain ⟨x, i1, h1, e1, hx, hc1⟩ := spec_l1Below_dr c i h 5 hc hl
  by_cases x0 : x = 0
  · exact ⟨_, _, _, evBind0 e1 (evPos x0 (Ev.now _)), ⟨by simp, by simp⟩, hc1⟩
  · have hj : ∀ b, ∃ s i' h', Ev (fun k => spec_l2DrawRight.j0 k x b c i1 h1) (s, i', h') ∧ (s.length ≤ 3 ∧ ∀ x ∈ s, 0 ≤ x ∧ x ≤ 5) ∧ Cu c i' := by
      intro b
      cases b with
      | true =>
        obtain ⟨y, i2, h2, e2, hy, hc2⟩ := spec_l1Below_dr c i1 h1 6 hc1 hl
        refine ⟨_, _, _, Ev.step (fun k => by rw [spec_l2DrawRight.j0]) (evPos rfl (evBind0 e2 (Ev.now _))), ?_, hc2⟩
        dsimp only
        refine ⟨by simp, fun z hz => ?_⟩
        rw [List.mem_singleton] at hz; omega
      | false =>
        by_cases x3 : x = 3
        · obtain ⟨y, i2, h2, e2, hy, hc2⟩ := spec_l1Below_dr c i1 h1 4 hc1 hl
          obtain ⟨z, i3, h3, e3, hz, hc3⟩ := spec_l1Below_dr c i2 h2 3 hc2 hl
          refine ⟨[y, wrap64 (1 + z)], i3, h3, Ev.step (fun k => by rw [spec_l2DrawRight.j0]) (evNeg (by simp) (evPos x3 (evBind0 e2 ?_))), ?_, hc3⟩
          · exact evBind0 (a := (z, i3, h3)) e3 (Ev.now ([y, wrap64 (1 + z)], i3, h3))
          rw [w64 (x := 1 + z) (by omega) (by omega)]
          refine ⟨by simp, fun u hu => ?_⟩
          simp only [List.mem_cons, List.not_mem_nil, or_false] at hu; omega
        · obtain ⟨y, i2, h2, e2, hy, hc2⟩ := spec_l1Below_dr c i1 h1 3 hc1 hl
          obtain ⟨z, i3, h3, e3, hz, hc3⟩ := spec_l1Below_dr c i2 h2 2 hc2 hl
          obtain ⟨v, i4, h4, e4, hv, hc4⟩ := spec_l1Below_dr c i3 h3 4 hc3 hl
          refine ⟨[wrap64 (1 + y), wrap64 (1 + z), v], i4, h4, Ev.step (fun k => by rw [spec_l2DrawRight.j0]) (evNeg (by simp) (evNeg x3 (evBind0 e2 ?_))), ?_, hc4⟩
          · exact evBind0 (a := (z, i3, h3)) e3 (evBind0 (a := (v, i4, h4)) e4 (Ev.now ([wrap64 (1 + y), wrap64 (1 + z), v], i4, h4)))
          rw [w64 (x := 1 + y) (by omega) (by omega), w64 (x := 1 + z) (by omega) (by omega)]
          refine ⟨by simp, fun u hu => ?_⟩
          simp only [List.mem_cons, List.not_mem_nil, or_false] at hu; omega
    by_cases x1 : x = 1
    · obtain ⟨s, i', h', e, r⟩ := hj (x == 1)
      exact ⟨s, i', h', evBind0 e1 (evNeg x0 (evPos x1 e)), r⟩
    · obtain ⟨s, i', h', e, r⟩ := hj (x == 2)
      exact ⟨s, i', h', evBind0 e1 (evNeg x0 (evNeg x1 e)), r⟩
theorem spec_l2Draw_dr (c : List Int) (i h : Int) (hc : Cu c i) (hl : c.length ≤ 1048576) : ∃ s i' h', Ev (fun k => spec_l2Draw.f k c i h) (s, i', h') ∧ (s.length ≤ 4 ∧ ∀ x ∈ s, -1 ≤ x ∧ x ≤ 301) ∧ Cu c i' := by
  unfold spec_l2Draw.f
  obtain ⟨s, i1, h1, e1, ⟨hs, hx⟩, hc1⟩ := spec_l2DrawRight_dr c i h hc hl
  obtain ⟨x, i2, h2, e2, _, hc2⟩ := spec_l1Below_dr c i1 h1 20 hc1 hl
  by_cases x0 : x = 0
  · obtain ⟨y, i3, h3, e3, hy, hc3⟩ := spec_l1PickInt_dr c i2 h2 [-1, 0, 300, 301] (by decide) hc2 hl
    refine ⟨_, _, _, Ev.bind e1 (evBind0 e2 (evPos x0 (evBind0 e3 (evPos (by dsimp only; omega) (Ev.now _))))), ?_, hc3⟩
    dsimp only
    refine ⟨by rw [List.length_append]; simp; omega, fun u hu => ?_⟩
    rw [List.mem_append, List.mem_singleton] at hu
    simp only [List.mem_cons, List.not_mem_nil, or_false] at hy
    rcases hu with hu | hu
    · have := hx u hu; omega
    · omega
  by_cases x1 : x = 1
  · exact ⟨_, _, _, Ev.bind e1 (evBind0 e2 (evNeg x0 (evPos x1 (Ev.now _)))), ⟨by simp, by simp⟩, hc2⟩
  by_cases x2 : x = 2
  · obtain ⟨y, i3, h3, e3, hy, hc3⟩ := spec_l1PickInt_dr c i2 h2 [17, 20, 15, 300] (by decide) hc2 hl
    obtain ⟨z, i4, h4, e4, hz, hc4⟩ := spec_l1PickInt_dr c i3 h3 [15, 20, 16, 0] (by decide) hc3 hl
    refine ⟨_, _, _, Ev.bind e1 (evBind0 e2 (evNeg x0 (evNeg x1 (evPos x2 (evBind0 e3 (evBind0 e4 (Ev.now _))))))), ?_, hc4⟩
    dsimp only
    refine ⟨by simp, fun u hu => ?_⟩
    simp only [List.mem_cons, List.not_mem_nil, or_false] at hu hy hz; omega
  · exact ⟨_, _, _, Ev.bind e1 (evBind0 e2 (evNeg x0 (evNeg x1 (evNeg x2 (Ev.now _))))), ⟨by dsimp only; omega, fun u hu => by have := hx u hu; omega⟩, hc2⟩

theorem spec_DrawIndexOf_dr (c : List Int) (hl : c.length ≤ 1048576) : ∃ s p, Ev (fun k => spec_DrawIndexOf.f k c) (s, p) ∧ s.length ≤ 4 ∧ -1 ≤ p ∧ p ≤ 301 := by
  unfold spec_DrawIndexOf.f
  obtain ⟨h0, e0⟩ := spec_l1New_dr c hl
  obtain ⟨s, i1, h1, e1, ⟨hs, _⟩, hc1⟩ := spec_l2Draw_dr c 0 h0 (cu0 c) hl
  have hz := szOf_ge s
  have hw : wrap64 (szOf s + 1) = szOf s + 1 := w64 (by omega) (by omega)
  obtain ⟨x, i2, h2, e2, hx, hc2⟩ := spec_l1Below_dr c i1 h1 (wrap64 (szOf s + 1)) hc1 hl
  obtain ⟨y, i3, h3, e3, hy, hc3⟩ := spec_l1Below_dr c i2 h2 20 hc2 hl
  refine ⟨_, _, Ev.bind e0 (Ev.bind e1 (Ev.bind (spec_SizeOf_ev s) (evBind0 e2 (evBind0 e3 (Ev.now _))))), hs, ?_⟩
  dsimp only
  rw [hw] at hx
  have h5 : 0 ≤ Int.tdiv y 19 ∧ Int.tdiv y 19 ≤ 1 := by
    rw [Int.tdiv_eq_ediv_of_nonneg hy.1]; omega
  rw [w64 (x := Int.tdiv y 19) (by omega) (by omega), w64 (by omega) (by omega)]; omega

theorem FnOrder_l1 (a b : List Int) (m : Nat) (ha : m < a.length) (hb : m < b.length) (hm : m ≤ 100) (h : ∀ j, (hj : j < m) → a[j]'(by omega) = b[j]'(by omega)) (n : Nat) : ∀ j : Nat, j + n = m → Ev (fun k => laws_FnOrder.l1 k a b (m : Int) (j : Int)) true := by
  induction n with
  | zero =>
    intro j hj
    refine Ev.step (f := fun _ => some true) (fun k => ?_) (Ev.now _)
    simp only [laws_FnOrder.l1]; rw [if_neg (by omega)]
  | succ n ih =>
    intro j hj
    refine Ev.step (f := fun k => laws_FnOrder.l1 k a b (m : Int) ((j + 1 : Nat) : Int)) (fun k => ?_) (ih (j + 1) (by omega))
    simp only [laws_FnOrder.l1]
    rw [if_pos (by omega), if_pos (by omega), if_pos (by omega), if_pos (by omega), rdn a j (by omega), rdn b j (by omega), if_pos (h j (by omega)), w64s j (by omega)]
theorem FnOrder_l0 (s : List Int) (p : Int) (hs : s.length ≤ 3) (hpos : ∀ n ∈ s, 0 < n) (hle : ∀ n ∈ s, n ≤ 300) (hp : 0 ≤ p) (hend : ¬ (idx s (p + 1)).2 = (idx s p).2 + 1) : ∀ i : Nat, i ≤ s.length → (idx (s.drop i) (p + 1)).2 = (idx (s.drop i) p).2 + 1 → Ev (fun k => laws_FnOrder.l0 k s (idx s p).1 (idx s (p + 1)).1 ((i : Int) - 1)) true := by
  intro i
  induction i with
  | zero => intro _ h; exact absurd h hend
  | succ i ih =>
    intro hi hc
    have hlt : i < s.length := by omega
    have hn : 0 < s[i] := hpos _ (List.getElem_mem hlt)
    have hn3 : s[i] ≤ 300 := hle _ (List.getElem_mem hlt)
    have hq0 := (idx_le (s.drop (i + 1)) p hp (fun n hn => hpos n (List.mem_of_mem_drop hn))).1
    have la : (idx s p).1.length = s.length := idx_length s p
    have lb : (idx s (p + 1)).1.length = s.length := idx_length s (p + 1)
    have ea := idx_drop_fst s p i hlt
    have eb := idx_drop_fst s (p + 1) i hlt
    have e1 : ((i + 1 : Nat) : Int) - 1 = (i : Int) := by omega
    have ra : rd (idx s p).1 (i : Int) = (idx (s.drop (i + 1)) p).2 % s[i] := by rw [rdn _ i (by omega), ea]
    have rb : rd (idx s (p + 1)).1 (i : Int) = ((idx (s.drop (i + 1)) p).2 + 1) % s[i] := by rw [rdn _ i (by omega), eb, hc]
    rw [e1]
    refine Ev.step (f := fun k => laws_FnOrder.j3 k s (idx s p).1 (idx s (p + 1)).1 (i : Int) ((rd (idx s p).1 (i : Int)) == (s[i] - 1))) (fun k => ?_) ?_
    · simp only [laws_FnOrder.l0]
      rw [if_pos (by omega), if_pos (by omega), if_pos (by omega), if_pos (by omega), rdn s i hlt, w64 (x := s[i] - 1) (by omega) (by omega)]
    rw [ra]
    rcases carry hn hq0 with ⟨h1, h2, h3⟩ | ⟨h1, h2, h3⟩
    · rw [show ((idx (s.drop (i + 1)) p).2 % s[i] == s[i] - 1) = true by simp [h1]]
      refine Ev.step (f := fun k => laws_FnOrder.l0 k s (idx s p).1 (idx s (p + 1)).1 ((i : Int) - 1)) (fun k => ?_) (ih (by omega) ?_)
      · simp only [laws_FnOrder.j3]
        rw [if_pos trivial, if_pos (by omega), if_pos (by omega), rb, if_pos h2, w64 (by omega) (by omega)]
      · rw [idx_drop_snd s (p + 1) i hlt, idx_drop_snd s p i hlt, hc, h3]
    · rw [show ((idx (s.drop (i + 1)) p).2 % s[i] == s[i] - 1) = false by simp [h1]]
      refine Ev.step (f := fun k => laws_FnOrder.j4 k (idx s p).1 (idx s (p + 1)).1 (i : Int) false) (fun k => ?_) ?_
      · simp only [laws_FnOrder.j3]
        have h0 := Int.emod_nonneg (idx (s.drop (i + 1)) p).2 (show s[i] ≠ 0 by omega)
        have h4 := Int.emod_lt_of_pos (idx (s.drop (i + 1)) p).2 hn
        rw [if_neg (by simp), if_neg (by omega), if_pos (by omega), if_pos (by omega), if_pos (by omega), rb, ra, w64 (by omega) (by omega), h2]
        simp
      · refine Ev.step (f := fun k => laws_FnOrder.l1 k (idx s p).1 (idx s (p + 1)).1 (i : Int) 0) (fun k => ?_) ?_
        · simp only [laws_FnOrder.j4]; rw [if_neg (by simp)]
        · refine FnOrder_l1 _ _ i (by omega) (by omega) (by omega) ?_ i 0 (by omega)
          intro j hj
          exact same_before s p (p + 1) i hlt (by rw [idx_drop_snd s (p + 1) i hlt, idx_drop_snd s p i hlt, hc, h3]) j hj
theorem idx_big (s : List Int) (p : Int) (hpos : ∀ n ∈ s, 0 < n) (h0 : 0 ≤ p) (h : p < prod s) : (idx s p).2 = 0 := by
  have h1 : ∀ (s : List Int) (p : Int), (∀ n ∈ s, 0 < n) → 0 ≤ p → (idx s p).2 * prod s ≤ p ∧ 0 ≤ prod s := by
    intro s
    induction s with
    | nil => intro p _ h0; simp [idx, prod]
    | cons n s ih =>
      intro p hp h0
      obtain ⟨h2, h3⟩ := ih p (fun m hm => hp m (List.mem_cons_of_mem _ hm)) h0
      have hn := hp n (List.mem_cons_self ..)
      refine ⟨?_, Int.mul_nonneg (Int.le_of_lt hn) h3⟩
      show (idx s p).2 / n * (n * prod s) ≤ p
      rw [← Int.mul_assoc]
      refine Int.le_trans ?_ h2
      exact Int.mul_le_mul_of_nonneg_right (Int.ediv_mul_le _ (by omega)) h3
  have h2 := (idx_le s p h0 hpos).1
  have h3 := (h1 s p hpos h0).1
  rcases Int.lt_or_eq_of_le h2 with h4 | h4
  · have h5 : 1 * prod s ≤ (idx s p).2 * prod s := Int.mul_le_mul_of_nonneg_right (by omega) (by omega)
    omega
  · exact h4.symm
theorem FnOrder : laws_FnOrder.Pure := by
  intro l _ _ _
  refine Ev.rounds (g := fun k => laws_FnOrder.f k l) ?_
  unfold laws_FnOrder.f
  refine evBind0 (laws_big_eq l) ?_
  by_cases hb : (l.length : Int) > 1048576
  · exact evPos (decide_eq_true hb) (Ev.now _)
  refine evNeg (by simpa using hb) ?_
  have hl : l.length ≤ 1048576 := by omega
  obtain ⟨s, p, e, hs, hp0, hp1⟩ := spec_DrawIndexOf_dr l hl
  have hw : wrap64 (p + 1) = p + 1 := w64 (by omega) (by omega)
  have hi : (indexOf s p).length ≤ 4 := by
    unfold indexOf; split
    · rw [idx_length]; exact hs
    · simp
  refine Ev.bind e (Ev.bind (impl_IndexOf_ev s p) (Ev.bind (impl_IndexOf_ev s (wrap64 (p + 1))) (Ev.bind (impl_SizeOf_ev s) (Ev.bind (spec_SizeOf_ev s) (evPos rfl (Ev.bind (spec_IndexOf_ev s p) (Ev.bind (laws_sameInts_rfl _ (by omega)) ?_)))))))
  rw [hw]
  refine Ev.step (fun k => by rw [laws_FnOrder.j0]) (evNeg (by simp) ?_)
  rw [hw]
  have hbad : (p < 0 ∨ indexOf s (p + 1) = []) → Ev (fun k => laws_FnOrder.j1 k s p (indexOf s p) (indexOf s (p + 1)) true) true := by
    intro h
    refine Ev.step (fun k => by rw [laws_FnOrder.j1]) (evPos rfl ?_)
    by_cases h1 : p < 0
    · exact evPos h1 (Ev.now _)
    · refine evNeg h1 (evSome ?_)
      rcases h with h | h
      · exact absurd h h1
      · rw [h]; rfl
  by_cases h1 : p < 0
  · exact evPos h1 (hbad (.inl h1))
  refine evNeg h1 ?_
  by_cases h2 : p + 1 ≥ szOf s
  · rw [decide_eq_true h2]
    exact hbad (.inr (by unfold indexOf; rw [if_neg (by omega)]))
  rw [decide_eq_false h2]
  obtain ⟨h3, h4, h5, h6, h7, h8⟩ := size_pos (s := s) (p := p) (by omega)
  refine Ev.step (fun k => by rw [laws_FnOrder.j1]) (evNeg (by simp) ?_)
  rw [w64 (x := (s.length : Int) - 1) (by omega) (by omega)]
  have ea : indexOf s p = (idx s p).1 := by unfold indexOf; rw [if_pos (by omega)]
  have eb : indexOf s (p + 1) = (idx s (p + 1)).1 := by unfold indexOf; rw [if_pos (by omega)]
  rw [ea, eb]
  refine FnOrder_l0 s p (by omega) h5 (fun n hn => ?_) (by omega) ?_ s.length (Nat.le_refl _) ?_
  · have := of_decide_eq_true (List.all_eq_true.1 h4 n hn); omega
  · rw [idx_big s (p + 1) h5 (by omega) (by omega), idx_big s p h5 (by omega) h6]; omega
  · simp [idx]

end Go.Proofs.Ytfcjbdkipcpjcaa.Pure
