/- The law FnEachOne answers true for each code: a sign on a drawn array is that sign on each of its numbers, in its shape, and changed in sign twice it is as it was. Conditions: those of the row's own reading alone. -/
import Derived.Test.YtlpgopiajkajjaaPFnEachOnex8
namespace Go.Proofs.Ytlpgopiajkajjaa.Pure
open Go.RowKit Go.Proofs.Ytlpgopiajkajjaa.PFnEachOne Go.Proofs.YtlpgopiajkajjaaW.PrintWords Go.Proofs.YtlpgopiajkajjaaW.PrintLast Go.Proofs.YtlpgopiajkajjaaW.PrintMore
set_option linter.unusedVariables false
set_option linter.unusedSimpArgs false

section
variable {α β : Type}
theorem evPos {c : Prop} [Decidable c] {g h : Nat → Option α} {r : α} (hc : c) (e : Ev g r) : Ev (fun k => if c then g k else h k) r := by
  simpa only [if_pos hc] using e
theorem evNeg {c : Prop} [Decidable c] {g h : Nat → Option α} {r : α} (hc : ¬ c) (e : Ev h r) : Ev (fun k => if c then g k else h k) r := by
  simpa only [if_neg hc] using e
theorem evBind0 {o : Option α} {f : Nat → α → Option β} {a : α} {r : β} (h : o = some a) (k : Ev (fun n => f n a) r) : Ev (fun n => o.bind (f n)) r := by
  subst h; simpa only [Option.bind_some] using k
theorem evLet {a : α} {f : Nat → α → Option β} {r : β} (k : Ev (fun n => f n a) r) : Ev (fun n => (some a).bind (f n)) r := by
  simpa only [Option.bind_some] using k
theorem evEq {g : Nat → Option α} {r r' : α} (h : Ev g r) (e : r = r') : Ev g r' := e ▸ h
theorem evSomeEq {o : Option α} {r : α} (e : o = some r) : Ev (fun _ => o) r := e ▸ Ev.now r
theorem evSome {a r : α} (e : a = r) : Ev (fun _ => some a) r := e ▸ Ev.now a
end
theorem w64 {x : Int} (h : -9223372036854775808 ≤ x) (h' : x ≤ 9223372036854775807) : wrap64 x = x := by unfold wrap64; omega
theorem w64s (i : Nat) (h : i < 4611686018427387904) : wrap64 ((i : Int) + 1) = ((i + 1 : Nat) : Int) := by rw [w64] <;> omega
theorem rdn (l : List Int) (i : Nat) (h : i < l.length) : rd l (i : Int) = l[i] := by
  simp only [rd, Int.toNat_natCast, List.getD_eq_getElem?_getD, List.getElem?_eq_getElem h, Option.getD_some]
theorem wfI {x : Int} (h : (Lit.int .i64 x).wf = true) : -9223372036854775808 ≤ x ∧ x ≤ 9223372036854775807 := by
  have h2 : (decide (IntKind.i64.min ≤ x) && decide (x ≤ IntKind.i64.max)) = true := h
  rw [Bool.and_eq_true, decide_eq_true_iff, decide_eq_true_iff] at h2
  have e1 : IntKind.i64.min = -9223372036854775808 := by decide
  have e2 : IntKind.i64.max = 9223372036854775807 := by decide
  rw [e1, e2] at h2
  exact h2

/-- The product of a list. -/
def prod : List Int → Int
  | [] => 1
  | x :: l => x * prod l
/-- May these stand in a shape? -/
def inR (l : List Int) : Bool := l.all fun n => decide (0 ≤ n ∧ n ≤ 300)
/-- How many numbers an array of a shape has; -1 where the shape isn't right. -/
def szOf (l : List Int) : Int := if 3 < l.length then -1 else if inR l = true then (if prod l > 300 then -1 else prod l) else -1
theorem mul300 {a b : Int} {m n : Int} (h0 : 0 ≤ a) (h1 : a ≤ m) (h2 : 0 ≤ b) (h3 : b ≤ n) : 0 ≤ a * b ∧ a * b ≤ m * n :=
  ⟨Int.mul_nonneg h0 h2, Int.mul_le_mul h1 h3 h2 (Int.le_trans h0 h1)⟩
theorem shape_cases {l : List Int} (h : ¬ 3 < l.length) : l = [] ∨ (∃ a, l = [a]) ∨ (∃ a b, l = [a, b]) ∨ ∃ a b c, l = [a, b, c] := by
  match l, h with
  | [], _ => exact .inl rfl
  | [a], _ => exact .inr (.inl ⟨a, rfl⟩)
  | [a, b], _ => exact .inr (.inr (.inl ⟨a, b, rfl⟩))
  | [a, b, c], _ => exact .inr (.inr (.inr ⟨a, b, c, rfl⟩))
  | _ :: _ :: _ :: _ :: _, h => exact absurd (by simp) h
theorem inR_cons {a : Int} {l : List Int} : inR (a :: l) = true ↔ (0 ≤ a ∧ a ≤ 300) ∧ inR l = true := by
  simp [inR]
/-- A part of a shape's product stays small. -/
def pw : Nat → Int
  | 0 => 1
  | n + 1 => 300 * pw n
theorem prod_le : ∀ (l : List Int), inR l = true → 0 ≤ prod l ∧ prod l ≤ pw l.length
  | [], _ => by simp [prod, pw]
  | a :: l, h => by
    obtain ⟨⟨h0, h1⟩, h2⟩ := inR_cons.1 h
    obtain ⟨h3, h4⟩ := prod_le l h2
    exact mul300 h0 h1 h3 h4
theorem prod_append : ∀ (a b : List Int), prod (a ++ b) = prod a * prod b
  | [], b => by simp [prod]
  | x :: a, b => by simp [prod, prod_append a b, Int.mul_assoc]
theorem pw_le {n : Nat} (h : n ≤ 3) : pw n ≤ 27000000 := by
  match n, h with
  | 0, _ => decide
  | 1, _ => decide
  | 2, _ => decide
  | 3, _ => decide
theorem inR_take {l : List Int} (i : Nat) (h : inR l = true) : inR (l.take i) = true := by
  simp only [inR, List.all_eq_true] at h ⊢
  exact fun x hx => h x (List.mem_of_mem_take hx)
theorem prod_take_succ (l : List Int) (i : Nat) (h : i < l.length) : prod (l.take (i + 1)) = prod (l.take i) * l[i] := by
  rw [List.take_succ_eq_append_getElem h, prod_append]; simp [prod]
/-- The product so far is small. -/
theorem prod_take_le (l : List Int) (i : Nat) (hl : ¬ 3 < l.length) (h : inR (l.take i) = true) : 0 ≤ prod (l.take i) ∧ prod (l.take i) ≤ 27000000 := by
  obtain ⟨h0, h1⟩ := prod_le _ h
  have h2 : (l.take i).length ≤ 3 := by rw [List.length_take]; omega
  exact ⟨h0, Int.le_trans h1 (pw_le h2)⟩
theorem inR_take_succ (l : List Int) (i : Nat) (h : i < l.length) : inR (l.take (i + 1)) = true ↔ inR (l.take i) = true ∧ (0 ≤ l[i] ∧ l[i] ≤ 300) := by
  unfold inR
  rw [List.take_succ_eq_append_getElem h, List.all_append, Bool.and_eq_true]; simp
theorem inR_not {l : List Int} (i : Nat) (h : i < l.length) (hx : ¬ (0 ≤ l[i] ∧ l[i] ≤ 300)) : inR l = false := by
  rw [← Bool.not_eq_true]
  intro hh
  simp only [inR, List.all_eq_true] at hh
  exact hx (of_decide_eq_true (hh _ (List.getElem_mem h)))
theorem szOf_ge (l : List Int) : -1 ≤ szOf l ∧ szOf l ≤ 300 := by
  unfold szOf
  by_cases h1 : 3 < l.length
  · rw [if_pos h1]; omega
  · rw [if_neg h1]
    by_cases h2 : inR l = true
    · rw [if_pos h2]
      have := (prod_le l h2).1
      by_cases h3 : prod l > 300
      · rw [if_pos h3]; omega
      · rw [if_neg h3]; omega
    · rw [if_neg h2]; omega

/-- A right number. -/
def okN (x : Int) : Bool := decide (-1000000000000 ≤ x ∧ x ≤ 1000000000000)
theorem okN_t {x : Int} (h : okN x = true) : -1000000000000 ≤ x ∧ x ≤ 1000000000000 := of_decide_eq_true h
theorem okN_f {x : Int} (h : okN x = false) : ¬ (-1000000000000 ≤ x ∧ x ≤ 1000000000000) := of_decide_eq_false h

/-- The place of an index, from a number on; -1 where the index isn't right. -/
def placeGo : Int → List Int → List Int → Int
  | a, n :: s, i :: x => if 0 ≤ i ∧ i ≤ n - 1 then placeGo (a * n + i) s x else -1
  | a, _, _ => a
def placeOf (s x : List Int) : Int := if szOf s ≥ 0 ∧ x.length = s.length then placeGo 0 s x else -1
theorem szOf_nonneg {l : List Int} (h : szOf l ≥ 0) : ¬ 3 < l.length ∧ inR l = true ∧ prod l ≤ 300 ∧ szOf l = prod l := by
  unfold szOf at h ⊢
  by_cases h1 : 3 < l.length
  · rw [if_pos h1] at h; omega
  · rw [if_neg h1] at h ⊢
    by_cases h2 : inR l = true
    · rw [if_pos h2] at h ⊢
      by_cases h3 : prod l > 300
      · rw [if_pos h3] at h; omega
      · rw [if_neg h3] at h ⊢; exact ⟨h1, h2, by omega, rfl⟩
    · rw [if_neg h2] at h; omega
def pb : Nat → Int
  | 0 => 0
  | n + 1 => 300 * pb n + 300
theorem pb_le {n : Nat} (h : n ≤ 3) : pb n ≤ 28000000 := by
  match n, h with
  | 0, _ => decide
  | 1, _ => decide
  | 2, _ => decide
  | 3, _ => decide

def arrayOk (s d : List Int) : Bool := decide ((d.length : Int) = szOf s) && d.all okN
theorem arrayOk_t {s d : List Int} (h : arrayOk s d = true) : (d.length : Int) = szOf s ∧ (∀ x ∈ d, okN x = true) ∧ d.length ≤ 300 ∧ s.length ≤ 3 ∧ szOf s ≥ 0 := by
  unfold arrayOk at h
  rw [Bool.and_eq_true, decide_eq_true_iff, List.all_eq_true] at h
  have h1 := szOf_ge s
  have h2 : szOf s ≥ 0 := by omega
  exact ⟨h.1, h.2, by omega, by have := (szOf_nonneg h2).1; omega, h2⟩

/-- A sign on each number of a row: the numbers, or the first code. -/
def mapE (f : Int → Int × Int) : List Int → List Int × Int
  | [] => ([], 0)
  | x :: l => if (f x).2 = 0 then (if (mapE f l).2 = 0 then ((f x).1 :: (mapE f l).1, 0) else ([], (mapE f l).2)) else ([], (f x).2)
theorem mapE_length (f : Int → Int × Int) : ∀ (l : List Int), (mapE f l).1.length ≤ l.length ∧ ((mapE f l).2 = 0 → (mapE f l).1.length = l.length)
  | [] => by simp [mapE]
  | x :: l => by
    have ih := mapE_length f l
    unfold mapE
    split
    · split
      · rename_i h1 h2; have := ih.2 h2; simp [this]
      · rename_i h1 h2; simp; exact fun h => absurd h h2
    · rename_i h; simp; exact fun h' => absurd h' h
theorem mapE_get (f : Int → Int × Int) : ∀ (l : List Int) (i : Nat) (hi : i < l.length) (h : (mapE f l).2 = 0), (f l[i]).2 = 0 ∧ (mapE f l).1[i]'(by rw [(mapE_length f l).2 h]; exact hi) = (f l[i]).1
  | [], i, hi, _ => by simp at hi
  | x :: l, i, hi, h => by
    by_cases h1 : (f x).2 = 0
    · by_cases h2 : (mapE f l).2 = 0
      · have e : mapE f (x :: l) = ((f x).1 :: (mapE f l).1, 0) := by rw [mapE, if_pos h1, if_pos h2]
        cases i with
        | zero => exact ⟨h1, by simp only [e, List.getElem_cons_zero]⟩
        | succ i =>
          have ih := mapE_get f l i (by simpa using hi) h2
          refine ⟨by simpa using ih.1, ?_⟩
          simp only [e, List.getElem_cons_succ]; exact ih.2
      · rw [mapE, if_pos h1, if_neg h2] at h; exact absurd h h2
    · rw [mapE, if_neg h1] at h; exact absurd h h1
theorem set_take_succ (o : List Int) (i : Nat) (v : Int) (h : i < o.length) : (o.set i v).take (i + 1) = o.take i ++ [v] := by
  rw [List.take_succ_eq_append_getElem (l := o.set i v) (i := i) (by rw [List.length_set]; exact h), List.getElem_set_self, List.take_set_of_le (Nat.le_refl i)]

def sign1 (s : Int) : Bool := decide (s = 43 ∨ s = 45 ∨ s = 42 ∨ s = 124 ∨ s = 126)
def sign2 (s : Int) : Bool := decide (s = 43 ∨ s = 45 ∨ s = 42 ∨ s = 37 ∨ s = 124 ∨ s = 38 ∨ s = 94 ∨ s = 61 ∨ s = 60 ∨ s = 62)
/-- A number that is right, or the code of a limit. -/
def lim (x : Int) : Int × Int := if okN x = true then (x, 0) else (0, 6)
def tru (b : Bool) : Int := if b = true then 1 else 0
def one (s x : Int) : Int × Int :=
  if sign1 s = true ∧ okN x = true then
    (if s = 45 then (-x, 0) else if s = 42 then (tru (decide (x > 0)) - tru (decide (x < 0)), 0) else if s = 124 then (if x < 0 then -x else x, 0) else if s = 126 then (if 0 ≤ x ∧ x ≤ 1 then (1 - x, 0) else (0, 2)) else (x, 0))
  else (0, 1)
def two (s a b : Int) : Int × Int :=
  if sign2 s = true ∧ okN a = true ∧ okN b = true then
    (if s = 43 then lim (a + b) else if s = 45 then lim (a - b) else if s = 42 then lim (a * b)
     else if s = 37 then (if b = 0 then (0, 2) else lim (Int.fdiv a b)) else if s = 124 then lim (if a = 0 then b else Int.fmod b a)
     else if s = 38 then lim (if b < a then b else a) else if s = 94 then lim (if a < b then b else a)
     else if s = 61 then lim (tru (a == b)) else if s = 60 then lim (tru (decide (a < b))) else lim (tru (decide (a > b))))
  else (0, 1)
theorem fdiv_le {a b : Int} (h : -1000000000000 ≤ a ∧ a ≤ 1000000000000) : -1000000000000 ≤ Int.fdiv a b ∧ Int.fdiv a b ≤ 1000000000000 := by
  have := Int.natAbs_fdiv_le_natAbs a b; omega
theorem tdiv_le {a b : Int} (h : -1000000000000 ≤ a ∧ a ≤ 1000000000000) : -1000000000000 ≤ Int.tdiv a b ∧ Int.tdiv a b ≤ 1000000000000 := by
  have := Int.natAbs_tdiv_le_natAbs a b; omega
theorem fmod_le {a b : Int} (h : -1000000000000 ≤ a ∧ a ≤ 1000000000000) (hb : a ≠ 0) : -1000000000000 ≤ Int.fmod b a ∧ Int.fmod b a ≤ 1000000000000 := by
  rcases Int.lt_or_gt_of_ne hb with h1 | h1
  · have h2 := Int.fmod_nonneg_of_pos (-b) (b := -a) (by omega)
    have h3 := Int.fmod_lt_of_pos (-b) (b := -a) (by omega)
    rw [Int.neg_fmod_neg] at h2 h3; omega
  · have h2 := Int.fmod_nonneg_of_pos b h1
    have h3 := Int.fmod_lt_of_pos b h1
    omega
/-- What floor tells: Go's quotient, one less where it doesn't divide and the signs differ. -/
theorem floor_is (a b : Int) (hb : b ≠ 0) (h : -1000000000000 ≤ a ∧ a ≤ 1000000000000) :
    (if b = 0 then none else (if (Int.tmod a b) = 0 then (some (wrap64 (Int.tdiv a b))) else (if ((decide (a < 0)) != (decide (b < 0))) = true then (some (wrap64 ((wrap64 (Int.tdiv a b)) - 1))) else (some (wrap64 (Int.tdiv a b)))))) = some (Int.fdiv a b) := by
  have ht := tdiv_le (b := b) h
  rw [if_neg hb, w64 (x := Int.tdiv a b) (by omega) (by omega), w64 (x := Int.tdiv a b - 1) (by omega) (by omega), Int.fdiv_eq_tdiv]
  by_cases h0 : Int.tmod a b = 0
  · rw [if_pos h0, if_pos (Int.dvd_iff_tmod_eq_zero.2 h0)]; simp
  · rw [if_neg h0, if_neg (fun hh => h0 (Int.dvd_iff_tmod_eq_zero.1 hh))]
    by_cases ha : a < 0
    · rw [if_neg (show ¬ 0 ≤ a by omega)]
      by_cases hb' : b < 0
      · rw [if_neg (by simp [ha, hb']), if_neg (show ¬ 0 ≤ b by omega), Int.sign_eq_neg_one_of_neg hb']; simp
      · rw [if_pos (by simp [ha, hb']), if_pos (show 0 ≤ b by omega), Int.sign_eq_one_of_pos (by omega)]
    · rw [if_pos (show 0 ≤ a by omega)]
      by_cases hb' : b < 0
      · rw [if_pos (by simp [ha, hb']), if_neg (show ¬ 0 ≤ b by omega)]
      · rw [if_neg (by simp [ha, hb']), if_pos (show 0 ≤ b by omega)]; simp
/-- A product beyond the limit, by a quotient. -/
theorem prod_lim {x y : Int} (hx : 0 < x) (hy : 0 ≤ y) : y > 1000000000000 / x ↔ x * y > 1000000000000 := by
  have h1 := Int.lt_ediv_add_one_mul_self 1000000000000 hx
  constructor
  · intro h
    have h2 : (1000000000000 / x + 1) * x ≤ y * x := Int.mul_le_mul_of_nonneg_right (by omega) (by omega)
    rw [Int.mul_comm y x] at h2; omega
  · intro h
    have h2 := Int.ediv_mul_le 1000000000000 (Int.ne_of_gt hx)
    by_cases h3 : y ≤ 1000000000000 / x
    · have h4 : y * x ≤ 1000000000000 / x * x := Int.mul_le_mul_of_nonneg_right h3 (by omega)
      rw [Int.mul_comm y x] at h4; omega
    · omega
/-- The size of a number. -/
def ab (x : Int) : Int := if x < 0 then -x else x
theorem ab_nonneg (x : Int) : 0 ≤ ab x := by unfold ab; split <;> omega
theorem ab_mul (x y : Int) : ab (x * y) = ab x * ab y := by
  have h : ∀ z : Int, ab z = (z.natAbs : Int) := fun z => by unfold ab; split <;> omega
  rw [h, h, h, Int.natAbs_mul, Int.natCast_mul]
theorem okN_ab (x : Int) : okN x = decide (ab x ≤ 1000000000000) := by
  unfold okN ab; rw [Bool.eq_iff_iff, decide_eq_true_iff, decide_eq_true_iff]; split <;> omega
theorem okN_prod {x y : Int} (hx : x ≠ 0) : okN (x * y) = !decide (ab y > 1000000000000 / ab x) := by
  have h0 : 0 < ab x := by unfold ab; split <;> omega
  have h1 := prod_lim h0 (ab_nonneg y)
  rw [okN_ab, ab_mul, Bool.eq_iff_iff, decide_eq_true_iff, Bool.not_eq_true', decide_eq_false_iff_not, h1]; omega

def eachOne (s : Int) (sh d : List Int) : List Int × List Int × Int :=
  if arrayOk sh d = true ∧ sign1 s = true then (if (mapE (one s) d).2 = 0 then (sh, (mapE (one s) d).1, 0) else ([], [], (mapE (one s) d).2)) else ([], [], 1)
theorem eachOne_len (s : Int) (sh d : List Int) (hs : sh.length ≤ 1048576) (hd : d.length ≤ 1048576) : (eachOne s sh d).1.length ≤ 1048576 ∧ (eachOne s sh d).2.1.length ≤ 1048576 := by
  have := (mapE_length (one s) d).1
  unfold eachOne
  repeat' split
  all_goals exact ⟨by first | exact hs | simp, by first | (dsimp only; omega) | simp⟩

theorem impl_within_eq (a b c : Int) : impl_within.f a b c = some (decide (b ≤ a ∧ a ≤ c)) := by
  unfold impl_within.f
  by_cases h : a ≥ b
  · rw [if_pos h]; congr 1; rw [Bool.eq_iff_iff, decide_eq_true_iff, decide_eq_true_iff]; omega
  · rw [if_neg h]; congr 1; symm; rw [decide_eq_false_iff_not]; omega

theorem impl_SizeOf_l0 (l : List Int) (hl : ¬ 3 < l.length) (d : Nat) : ∀ (i : Nat), i + d = l.length → inR (l.take i) = true → Ev (fun k => impl_SizeOf.l0 k (prod (l.take i)) l (l.length : Int) (i : Int)) (if inR l = true then (if prod l > 300 then -1 else prod l) else -1) := by
  induction d with
  | zero =>
    intro i hi hr
    have e : l.take i = l := List.take_of_length_le (by omega)
    rw [e] at hr ⊢
    rw [if_pos hr]
    refine Ev.step (f := fun _ => some (if prod l > 300 then -1 else prod l)) (fun k => ?_) (Ev.now _)
    simp only [impl_SizeOf.l0]; rw [if_neg (by omega)]
    by_cases h : prod l > 300
    · rw [if_pos h, if_pos h]
    · rw [if_neg h, if_neg h]
  | succ d ih =>
    intro i hi hr
    have hlt : i < l.length := by omega
    by_cases hx : 0 ≤ l[i] ∧ l[i] ≤ 300
    · have hr' := (inR_take_succ l i hlt).2 ⟨hr, hx⟩
      refine Ev.step (f := fun k => impl_SizeOf.l0 k (prod (l.take (i + 1))) l (l.length : Int) ((i + 1 : Nat) : Int)) (fun k => ?_) (ih (i + 1) (by omega) hr')
      simp only [impl_SizeOf.l0]
      rw [if_pos (by omega), if_pos (by omega), if_pos (by omega), impl_within_eq, rdn l i hlt, decide_eq_true hx]
      simp only [Option.bind_some, if_true]
      have hp := prod_take_le l (i + 1) hl hr'
      rw [w64s i (by omega), ← prod_take_succ l i hlt, w64 (by omega) (by omega)]
    · rw [if_neg (by rw [inR_not i hlt hx]; simp)]
      refine Ev.step (f := fun _ => some (-1)) (fun k => ?_) (Ev.now _)
      simp only [impl_SizeOf.l0]
      rw [if_pos (by omega), if_pos (by omega), if_pos (by omega), impl_within_eq, rdn l i hlt, decide_eq_false hx]
      rfl
theorem impl_SizeOf_ev (l : List Int) : Ev (fun k => impl_SizeOf.f k l) (szOf l) := by
  unfold impl_SizeOf.f szOf
  by_cases h : 3 < l.length
  · rw [if_pos h]; exact evPos (by omega) (Ev.now _)
  · rw [if_neg h]
    refine evNeg (by omega) ?_
    have := impl_SizeOf_l0 l h l.length 0 (by omega) (by simp [inR])
    simpa only [List.take_zero, prod, Int.ofNat_zero, Int.natCast_zero] using this

theorem impl_NumOk_eq (a : Int) : impl_NumOk.f a = some (okN a) := by
  unfold impl_NumOk.f; rw [impl_within_eq]; rfl

def p_ArrayOk1 (x : Int) : Bool := !okN x
theorem lit_ArrayOk1_eq (x : Int) : impl_ArrayOk_lit1.f x = some (p_ArrayOk1 x) := by
  unfold impl_ArrayOk_lit1.f; rw [impl_NumOk_eq]; rfl

theorem slices_IndexFunc_ArrayOk1_l0 (l : List Int) (hl : l.length ≤ 1048576) (d : Nat) : ∀ (i : Nat), i + d = l.length → (l.take i).all (fun x => !p_ArrayOk1 x) = true → ∃ r, Ev (fun k => slices_IndexFunc_ArrayOk1.l0 k l (l.length : Int) (i : Int)) r ∧ decide (r ≥ 0) = l.any p_ArrayOk1 := by
  induction d with
  | zero =>
    intro i hi ht
    refine ⟨-1, Ev.step (f := fun _ => some (-1)) (fun k => ?_) (Ev.now _), ?_⟩
    · simp only [slices_IndexFunc_ArrayOk1.l0]; rw [if_neg (by omega)]
    · have e : l.take i = l := List.take_of_length_le (by omega)
      rw [e] at ht
      symm; rw [show decide ((-1 : Int) ≥ 0) = false by decide, List.any_eq_false]
      intro x hx
      have := List.all_eq_true.1 ht x hx
      simpa using this
  | succ d ih =>
    intro i hi ht
    have hlt : i < l.length := by omega
    by_cases hx : p_ArrayOk1 l[i] = true
    · refine ⟨(i : Int), Ev.step (f := fun _ => some (i : Int)) (fun k => ?_) (Ev.now _), ?_⟩
      · simp only [slices_IndexFunc_ArrayOk1.l0]
        rw [if_pos (by omega), if_pos (by omega), if_pos (by omega), lit_ArrayOk1_eq, rdn l i hlt]; simp only [Option.bind_some]; rw [if_pos hx]
      · rw [decide_eq_true (by omega)]; symm; rw [List.any_eq_true]; exact ⟨_, List.getElem_mem hlt, hx⟩
    · obtain ⟨r, hr, h2⟩ := ih (i + 1) (by omega) (by rw [List.take_succ_eq_append_getElem hlt, List.all_append, ht]; simp [hx])
      refine ⟨r, Ev.step (f := fun k => slices_IndexFunc_ArrayOk1.l0 k l (l.length : Int) ((i + 1 : Nat) : Int)) (fun k => ?_) hr, h2⟩
      simp only [slices_IndexFunc_ArrayOk1.l0]
      rw [if_pos (by omega), if_pos (by omega), if_pos (by omega), lit_ArrayOk1_eq, rdn l i hlt]; simp only [Option.bind_some]; rw [if_neg hx, w64s i (by omega)]
theorem slices_ContainsFunc_ArrayOk1_ev (l : List Int) (hl : l.length ≤ 1048576) : Ev (fun k => slices_ContainsFunc_ArrayOk1.f k l) (l.any p_ArrayOk1) := by
  unfold slices_ContainsFunc_ArrayOk1.f slices_IndexFunc_ArrayOk1.f
  obtain ⟨r, hr, h⟩ := slices_IndexFunc_ArrayOk1_l0 l hl l.length 0 (by omega) (by simp)
  exact Ev.bind hr (evSome h)

theorem all_okN (d : List Int) : (!d.any p_ArrayOk1) = d.all okN := by
  rw [List.not_any_eq_all_not]; congr 1; funext x; simp [p_ArrayOk1]
theorem impl_ArrayOk_ev (s d : List Int) (hd : d.length ≤ 1048576) : Ev (fun k => impl_ArrayOk.f k s d) (arrayOk s d) := by
  unfold impl_ArrayOk.f arrayOk
  refine Ev.bind (impl_SizeOf_ev s) ?_
  by_cases h : (d.length : Int) = szOf s
  · exact evPos h (Ev.bind (slices_ContainsFunc_ArrayOk1_ev d hd) (evSome (by rw [all_okN, decide_eq_true h]; rfl)))
  · exact evNeg h (evSome (by rw [decide_eq_false h]; rfl))

theorem hs_step (b : ByteArray) (s : Int) (i : Nat) (v : Int) (r : Bool) (hi : i < b.size) (hn : i < 100) (hv : bt b i = v) (e : Ev (fun k => impl_hasSign.l0 k b s ((i + 1 : Nat) : Int)) r) : Ev (fun k => impl_hasSign.l0 k b s (i : Int)) (decide (s = v) || r) := by
  have hr := bt_range b i
  by_cases h : v = s
  · refine Ev.step (f := fun _ => some true) (fun k => ?_) (evSome (by simp [h]))
    simp only [impl_hasSign.l0]
    rw [if_pos (by omega), if_pos (by omega), if_pos (by rw [w64 (by omega) (by omega), hv, h])]
  · refine Ev.step (f := fun k => impl_hasSign.l0 k b s ((i + 1 : Nat) : Int)) (fun k => ?_) (evEq e (by rw [decide_eq_false (fun hh => h hh.symm), Bool.false_or]))
    simp only [impl_hasSign.l0]
    rw [if_pos (by omega), if_pos (by omega), if_neg (by rw [w64 (by omega) (by omega), hv]; exact h), w64s i (by omega)]
theorem hs_end (b : ByteArray) (s : Int) (i : Nat) (hi : b.size = i) : Ev (fun k => impl_hasSign.l0 k b s (i : Int)) false := by
  refine Ev.step (f := fun _ => some false) (fun k => ?_) (Ev.now _)
  simp only [impl_hasSign.l0]
  rw [if_neg (by omega)]

theorem impl_oneSign_ev (s : Int) : Ev (fun k => impl_oneSign.f k s) (sign1 s) := by
  unfold impl_oneSign.f impl_hasSign.f
  refine Ev.bind (a := sign1 s) ?_ (Ev.now _)
  refine evEq (hs_step _ s 0 43 _ (by decide) (by decide) (by decide) (hs_step _ s 1 45 _ (by decide) (by decide) (by decide) (hs_step _ s 2 42 _ (by decide) (by decide) (by decide) (hs_step _ s 3 124 _ (by decide) (by decide) (by decide) (hs_step _ s 4 126 _ (by decide) (by decide) (by decide) (hs_end _ s 5 (by decide))))))) ?_
  unfold sign1; rw [Bool.eq_iff_iff]; simp

theorem impl_truth_eq (b : Bool) : impl_truth.f b = some (tru b) := by cases b <;> rfl

theorem impl_One_ev (s x : Int) : Ev (fun k => impl_One.f k s x) (one s x) := by
  unfold impl_One.f one
  refine Ev.bind (impl_oneSign_ev s) ?_
  have hbad : Ev (fun k => impl_One.j0 k s x true) (0, 1) := by
    refine Ev.step (f := fun _ => some (0, 1)) (fun k => ?_) (Ev.now _)
    rw [impl_One.j0]; exact if_pos rfl
  by_cases hs : sign1 s = true
  · refine evPos hs (evBind0 (impl_NumOk_eq x) ?_)
    by_cases hx : okN x = true
    · rw [if_pos ⟨hs, hx⟩, hx]
      have hb := okN_t hx
      refine Ev.step (f := fun _ => some _) (fun k => ?_) (Ev.now _)
      simp only [impl_One.j0, impl_truth_eq, impl_within_eq, Option.bind_some]
      rw [if_neg (by simp), w64 (x := -x) (by omega) (by omega), w64 (x := 1 - x) (by omega) (by omega)]
      rw [w64 (x := tru (decide (x > 0)) - tru (decide (x < 0))) (by unfold tru; split <;> split <;> omega) (by unfold tru; split <;> split <;> omega)]
      have hm : mx x (-x) = if x < 0 then -x else x := by unfold mx; split <;> split <;> omega
      rw [hm]
      simp only [decide_eq_true_eq]
      repeat' split
      all_goals first | rfl | omega
    · rw [if_neg (fun h => hx h.2), Bool.eq_false_iff.2 hx]
      exact hbad
  · rw [if_neg (fun h => hs h.1)]
    exact evNeg hs hbad

theorem impl_copyArray_eq (s d : List Int) (hs : s.length ≤ 1048576) (hd : d.length ≤ 1048576) : impl_copyArray.f s d = some (s, d) := by
  unfold impl_copyArray.f
  rw [if_pos (by rw [List.length_nil]; omega), if_pos (by rw [List.length_nil]; omega)]; rfl

theorem impl_EachOne_l0 (s : Int) (d sh : List Int) (hd : d.length ≤ 1048576) (n : Nat) : ∀ (i : Nat) (o : List Int), i + n = d.length → o.length = d.length → Ev (fun k => impl_EachOne.l0 k s d (d.length : Int) (i : Int) sh o) (if (mapE (one s) (d.drop i)).2 = 0 then (sh, o.take i ++ (mapE (one s) (d.drop i)).1, 0) else ([], [], (mapE (one s) (d.drop i)).2)) := by
  induction n with
  | zero =>
    intro i o hi ho
    rw [List.drop_of_length_le (by omega), List.take_of_length_le (by omega)]
    refine Ev.step (f := fun _ => some (sh, o, 0)) (fun k => ?_) (evSome (by simp [mapE]))
    simp only [impl_EachOne.l0]; rw [if_neg (by omega)]
  | succ n ih =>
    intro i o hi ho
    have hlt : i < d.length := by omega
    rw [List.drop_eq_getElem_cons hlt]
    refine Ev.step (f := fun k => (impl_One.f k s d[i]).bind fun bt => (if bt.2 = 0 then (if (i : Int) < (o.length : Int) then (impl_EachOne.l0 k s d (d.length : Int) ((i + 1 : Nat) : Int) sh (o.set i bt.1)) else none) else (some (([] : List Int), ([] : List Int), bt.2)))) (fun k => ?_) (Ev.bind (impl_One_ev s d[i]) ?_)
    · simp only [impl_EachOne.l0]
      rw [if_pos (by omega), if_pos (by omega), if_pos (by omega), rdn d i hlt, w64s i (by omega), Int.toNat_natCast]
    by_cases h : (one s d[i]).2 = 0
    · refine evPos h (evPos (by omega) (evEq (ih (i + 1) (o.set i (one s d[i]).1) (by omega) (by rw [List.length_set, ho])) ?_))
      rw [mapE, if_pos h, set_take_succ o i _ (by omega)]
      by_cases h2 : (mapE (one s) (d.drop (i + 1))).2 = 0
      · rw [if_pos h2, if_pos h2, if_pos rfl, List.append_assoc]; rfl
      · rw [if_neg h2, if_neg h2, if_neg h2]
    · refine evNeg h (evSome ?_)
      rw [mapE, if_neg h, if_neg h]
theorem impl_EachOne_ev (s : Int) (sh d : List Int) (hs : sh.length ≤ 1048576) (hd : d.length ≤ 1048576) : Ev (fun k => impl_EachOne.f k s sh d) (eachOne s sh d) := by
  unfold impl_EachOne.f eachOne
  refine Ev.bind (impl_ArrayOk_ev sh d hd) ?_
  have hbad : Ev (fun k => impl_EachOne.j0 k s true sh d) ([], [], 1) := by
    refine Ev.step (fun k => by rw [impl_EachOne.j0]) (evPos rfl (Ev.now _))
  by_cases h : arrayOk sh d = true
  · refine evPos h (Ev.bind (impl_oneSign_ev s) ?_)
    by_cases h2 : sign1 s = true
    · rw [h2]
      refine evEq (Ev.step (fun k => by rw [impl_EachOne.j0]) (evNeg (by simp) (evBind0 (impl_copyArray_eq sh d hs hd) (impl_EachOne_l0 s d sh hd d.length 0 d (by omega) rfl)))) ?_
      rw [if_pos (And.intro h rfl)]; simp
    · rw [Bool.eq_false_iff.2 h2]
      exact evEq hbad (if_neg (fun hh : _ ∧ _ => absurd hh.2 (by simp))).symm
  · exact evEq (evNeg h hbad) (if_neg (fun hh : _ ∧ _ => h hh.1)).symm

theorem spec_l1In_eq (a b c : Int) : spec_l1In.f a b c = some (decide (b ≤ a ∧ a ≤ c)) := by
  unfold spec_l1In.f
  by_cases h : a ≥ b
  · rw [if_pos h]; congr 1; rw [Bool.eq_iff_iff, decide_eq_true_iff, decide_eq_true_iff]; omega
  · rw [if_neg h]; congr 1; symm; rw [decide_eq_false_iff_not]; omega

theorem spec_SizeOf_l1 (l : List Int) (hl : ¬ 3 < l.length) (z : Bool) (hr : inR l = true) (hz : z = true → prod l = 0) (d : Nat) : ∀ (i : Nat), i + d = l.length → Ev (fun k => spec_SizeOf.l1 k l z (prod (l.take i)) (i : Int)) (if prod l > 300 then -1 else prod l) := by
  induction d with
  | zero =>
    intro i hi
    have e : l.take i = l := List.take_of_length_le (by omega)
    rw [e]
    refine Ev.step (f := fun _ => some (if prod l > 300 then -1 else prod l)) (fun k => ?_) (Ev.now _)
    simp only [spec_SizeOf.l1]; rw [if_neg (by omega)]
    by_cases h : prod l > 300
    · rw [if_pos h, if_pos h]
      rw [if_neg (by intro hh; have := hz hh; omega)]
    · rw [if_neg h, if_neg h]
  | succ d ih =>
    intro i hi
    have hlt : i < l.length := by omega
    have hr' := inR_take (i + 1) hr
    refine Ev.step (f := fun k => spec_SizeOf.l1 k l z (prod (l.take (i + 1))) ((i + 1 : Nat) : Int)) (fun k => ?_) (ih (i + 1) (by omega))
    simp only [spec_SizeOf.l1]
    have hp := prod_take_le l (i + 1) hl hr'
    rw [if_pos (by omega), if_pos (by omega), rdn l i hlt, w64s i (by omega), ← prod_take_succ l i hlt, w64 (by omega) (by omega)]
theorem prod_zero (l : List Int) (h : l.any (· == 0) = true) : prod l = 0 := by
  induction l with
  | nil => simp at h
  | cons a l ih =>
    rw [List.any_cons, Bool.or_eq_true] at h
    rcases h with h | h
    · have : a = 0 := by simpa using h
      rw [prod, this, Int.zero_mul]
    · rw [prod, ih h, Int.mul_zero]
theorem spec_SizeOf_l0 (l : List Int) (hl : ¬ 3 < l.length) (d : Nat) : ∀ (i : Nat) (z : Bool), i + d = l.length → inR (l.take i) = true → z = (l.take i).any (· == 0) → Ev (fun k => spec_SizeOf.l0 k l z (i : Int)) (if inR l = true then (if prod l > 300 then -1 else prod l) else -1) := by
  induction d with
  | zero =>
    intro i z hi hr hz
    have e : l.take i = l := List.take_of_length_le (by omega)
    rw [e] at hr hz
    rw [if_pos hr]
    refine Ev.step (f := fun k => spec_SizeOf.l1 k l z 1 0) (fun k => ?_) ?_
    · simp only [spec_SizeOf.l0]; rw [if_neg (by omega)]
    · exact spec_SizeOf_l1 l hl z hr (fun h => prod_zero l (by rw [← hz]; exact h)) l.length 0 (by omega)
  | succ d ih =>
    intro i z hi hr hz
    have hlt : i < l.length := by omega
    by_cases hx : 0 ≤ l[i] ∧ l[i] ≤ 300
    · have hr' := (inR_take_succ l i hlt).2 ⟨hr, hx⟩
      refine Ev.step (f := fun k => spec_SizeOf.l0 k l ((l.take (i + 1)).any (· == 0)) ((i + 1 : Nat) : Int)) (fun k => ?_) (ih (i + 1) _ (by omega) hr' rfl)
      simp only [spec_SizeOf.l0]
      rw [if_pos (by omega), if_pos (by omega), spec_l1In_eq, rdn l i hlt, decide_eq_true hx]
      simp only [Option.bind_some, if_true]
      rw [w64s i (by omega), List.take_succ_eq_append_getElem hlt, List.any_append, ← hz]
      cases z with
      | true => simp
      | false => simp
    · rw [if_neg (by rw [inR_not i hlt hx]; simp)]
      refine Ev.step (f := fun _ => some (-1)) (fun k => ?_) (Ev.now _)
      simp only [spec_SizeOf.l0]
      rw [if_pos (by omega), if_pos (by omega), spec_l1In_eq, rdn l i hlt, decide_eq_false hx]
      rfl
theorem spec_SizeOf_ev (l : List Int) : Ev (fun k => spec_SizeOf.f k l) (szOf l) := by
  unfold spec_SizeOf.f szOf
  by_cases h : 3 < l.length
  · rw [if_pos h]; exact evPos (by omega) (Ev.now _)
  · rw [if_neg h]
    refine evNeg (by omega) ?_
    exact spec_SizeOf_l0 l h l.length 0 false (by omega) (by simp [inR]) (by simp)

theorem spec_NumOk_eq (a : Int) : spec_NumOk.f a = some (okN a) := by
  unfold spec_NumOk.f; rw [spec_l1In_eq]; rfl

theorem spec_ArrayOk_l0 (s l : List Int) (hl : l.length ≤ 1048576) (d : Nat) : ∀ (i : Nat), i + d = l.length → (l.take i).all okN = true → Ev (fun k => spec_ArrayOk.l0 k (i : Int) s l) (l.all okN) := by
  induction d with
  | zero =>
    intro i hi ht
    refine Ev.step (f := fun _ => some true) (fun k => ?_) (evSome ?_)
    · simp only [spec_ArrayOk.l0]; rw [if_neg (by omega)]
    · rw [List.take_of_length_le (by omega)] at ht; exact ht.symm
  | succ d ih =>
    intro i hi ht
    have hlt : i < l.length := by omega
    by_cases hx : okN l[i] = true
    · refine Ev.step (f := fun k => spec_ArrayOk.l0 k ((i + 1 : Nat) : Int) s l) (fun k => ?_) (ih (i + 1) (by omega) (by rw [List.take_succ_eq_append_getElem hlt, List.all_append, ht]; simp [hx]))
      simp only [spec_ArrayOk.l0]
      rw [if_pos (by omega), if_pos (by omega), spec_NumOk_eq, rdn l i hlt]; simp only [Option.bind_some]; rw [if_pos hx, w64s i (by omega)]
    · refine Ev.step (f := fun _ => some false) (fun k => ?_) (evSome ?_)
      · simp only [spec_ArrayOk.l0]
        rw [if_pos (by omega), if_pos (by omega), spec_NumOk_eq, rdn l i hlt]; simp only [Option.bind_some]; rw [if_neg hx]
      · symm; rw [List.all_eq_false]; exact ⟨_, List.getElem_mem hlt, hx⟩
theorem spec_ArrayOk_ev (s d : List Int) (hd : d.length ≤ 1048576) : Ev (fun k => spec_ArrayOk.f k s d) (arrayOk s d) := by
  unfold spec_ArrayOk.f arrayOk
  refine Ev.bind (spec_SizeOf_ev s) ?_
  by_cases h : szOf s = (d.length : Int)
  · refine evPos h (evEq (spec_ArrayOk_l0 s d hd d.length 0 (by omega) (by simp)) ?_)
    rw [decide_eq_true h.symm]; rfl
  · exact evNeg h (evSome (by rw [decide_eq_false (fun e => h e.symm)]; rfl))

theorem spec_l1Sign1_eq (s : Int) : spec_l1Sign1.f s = some (sign1 s) := by
  unfold spec_l1Sign1.f sign1
  repeat (split; · simp_all)
  congr 1; rw [Bool.eq_iff_iff]; simp_all

theorem spec_l1Bit_eq (b : Bool) : spec_l1Bit.f b = some (tru b) := by cases b <;> rfl

theorem spec_l1Max_eq (a b : Int) : spec_l1Max.f a b = some (if a > b then a else b) := by unfold spec_l1Max.f; split <;> rfl
theorem spec_One_ev (s x : Int) : Ev (fun k => spec_One.f k s x) (one s x) := by
  unfold spec_One.f one
  refine evBind0 (spec_l1Sign1_eq s) ?_
  have hbad : Ev (fun k => spec_One.j0 k s x true) (0, 1) := by
    refine Ev.step (f := fun _ => some (0, 1)) (fun k => ?_) (Ev.now _)
    rw [spec_One.j0]; exact if_pos rfl
  by_cases hs : sign1 s = true
  · refine evPos hs (evBind0 (spec_NumOk_eq x) ?_)
    by_cases hx : okN x = true
    · rw [if_pos ⟨hs, hx⟩, hx]
      have hb := okN_t hx
      refine Ev.step (f := fun _ => some _) (fun k => ?_) (Ev.now _)
      simp only [spec_One.j0, spec_l1Bit_eq, spec_l1In_eq, spec_l1Max_eq, Option.bind_some]
      rw [if_neg (by simp), w64 (x := -x) (by omega) (by omega), w64 (x := 1 - x) (by omega) (by omega)]
      rw [w64 (x := tru (decide (x > 0)) - tru (decide (x < 0))) (by unfold tru; split <;> split <;> omega) (by unfold tru; split <;> split <;> omega)]
      have hm : (if x > -x then x else -x) = if x < 0 then -x else x := by split <;> split <;> omega
      rw [hm]
      simp only [decide_eq_true_eq]
      repeat' split
      all_goals first | rfl | omega
    · rw [if_neg (fun h => hx h.2), Bool.eq_false_iff.2 hx]
      exact hbad
  · rw [if_neg (fun h => hs h.1)]
    exact evNeg hs hbad

theorem spec_l3Copy_eq (s d : List Int) (hs : s.length ≤ 1048576) (hd : d.length ≤ 1048576) : spec_l3Copy.f s d = some (s, d) := by
  unfold spec_l3Copy.f
  rw [Option.bind_some, if_pos (by rw [List.length_nil]; omega), Option.bind_some, if_pos (by rw [List.length_nil]; omega)]; rfl

theorem spec_EachOne_l0 (s : Int) (d sh sh0 : List Int) (hd : d.length ≤ 1048576) (n : Nat) : ∀ (i : Nat) (o : List Int), i + n = d.length → o.length = d.length → Ev (fun k => spec_EachOne.l0 k s (i : Int) sh0 d sh o) (if (mapE (one s) (d.drop i)).2 = 0 then (sh, o.take i ++ (mapE (one s) (d.drop i)).1, 0) else ([], [], (mapE (one s) (d.drop i)).2)) := by
  induction n with
  | zero =>
    intro i o hi ho
    rw [List.drop_of_length_le (by omega), List.take_of_length_le (by omega)]
    refine Ev.step (f := fun _ => some (sh, o, 0)) (fun k => ?_) (evSome (by simp [mapE]))
    simp only [spec_EachOne.l0]; rw [if_neg (by omega)]
  | succ n ih =>
    intro i o hi ho
    have hlt : i < d.length := by omega
    rw [List.drop_eq_getElem_cons hlt]
    refine Ev.step (f := fun k => (spec_One.f k s d[i]).bind fun bt => (if bt.2 = 0 then (if (i : Int) < (o.length : Int) then (spec_EachOne.l0 k s ((i + 1 : Nat) : Int) sh0 d sh (o.set i bt.1)) else none) else (some (([] : List Int), ([] : List Int), bt.2)))) (fun k => ?_) (Ev.bind (spec_One_ev s d[i]) ?_)
    · simp only [spec_EachOne.l0]
      rw [if_pos (by omega), if_pos (by omega), rdn d i hlt, w64s i (by omega), Int.toNat_natCast]
    by_cases h : (one s d[i]).2 = 0
    · refine evPos h (evPos (by omega) (evEq (ih (i + 1) (o.set i (one s d[i]).1) (by omega) (by rw [List.length_set, ho])) ?_))
      rw [mapE, if_pos h, set_take_succ o i _ (by omega)]
      by_cases h2 : (mapE (one s) (d.drop (i + 1))).2 = 0
      · rw [if_pos h2, if_pos h2, if_pos rfl, List.append_assoc]; rfl
      · rw [if_neg h2, if_neg h2, if_neg h2]
    · refine evNeg h (evSome ?_)
      rw [mapE, if_neg h, if_neg h]
theorem spec_EachOne_ev (s : Int) (sh d : List Int) (hs : sh.length ≤ 1048576) (hd : d.length ≤ 1048576) : Ev (fun k => spec_EachOne.f k s sh d) (eachOne s sh d) := by
  unfold spec_EachOne.f eachOne
  refine Ev.bind (spec_ArrayOk_ev sh d hd) ?_
  have hbad : Ev (fun k => spec_EachOne.j0 k s true sh d) ([], [], 1) := by
    refine Ev.step (fun k => by rw [spec_EachOne.j0]) (evPos rfl (Ev.now _))
  by_cases h : arrayOk sh d = true
  · refine evPos h (evBind0 (spec_l1Sign1_eq s) ?_)
    by_cases h2 : sign1 s = true
    · rw [h2]
      refine evEq (Ev.step (fun k => by rw [spec_EachOne.j0]) (evNeg (by simp) (evBind0 (spec_l3Copy_eq sh d hs hd) (spec_EachOne_l0 s d sh sh hd d.length 0 d (by omega) rfl)))) ?_
      rw [if_pos (And.intro h rfl)]; simp
    · rw [Bool.eq_false_iff.2 h2]
      exact evEq hbad (if_neg (fun hh : _ ∧ _ => absurd hh.2 (by simp))).symm
  · exact evEq (evNeg h hbad) (if_neg (fun hh : _ ∧ _ => h hh.1)).symm

theorem laws_sameInts_l0 (l m : List Int) (hl : l.length ≤ 35184372088832) (hm : l.length = m.length) (d : Nat) : ∀ (i : Nat), i + d = l.length → Ev (fun k => laws_sameInts.l0 k l m (i : Int)) (decide (l.drop i = m.drop i)) := by
  induction d with
  | zero =>
    intro i hi
    refine Ev.step (f := fun _ => some (decide (l.drop i = m.drop i))) (fun k => ?_) (Ev.now _)
    simp only [laws_sameInts.l0]
    rw [if_neg (by omega), List.drop_of_length_le (by omega), List.drop_of_length_le (by omega)]; simp
  | succ d ih =>
    intro i hi
    have hlt : i < l.length := by omega
    have hlt' : i < m.length := by omega
    have e1 := List.drop_eq_getElem_cons hlt
    have e2 := List.drop_eq_getElem_cons hlt'
    by_cases hx : l[i] = m[i]
    · refine Ev.step (f := fun k => laws_sameInts.l0 k l m ((i + 1 : Nat) : Int)) (fun k => ?_) (evEq (ih (i + 1) (by omega)) ?_)
      · simp only [laws_sameInts.l0]
        rw [if_pos (by omega), if_pos (by omega), if_pos (by omega), rdn l i hlt, rdn m i hlt', if_pos hx, w64s i (by omega)]
      · rw [e1, e2, hx]; simp only [List.cons.injEq, true_and]
    · refine Ev.step (f := fun _ => some false) (fun k => ?_) (evSome ?_)
      · simp only [laws_sameInts.l0]
        rw [if_pos (by omega), if_pos (by omega), if_pos (by omega), rdn l i hlt, rdn m i hlt', if_neg hx]
      · rw [e1, e2]; symm; rw [decide_eq_false_iff_not]; intro h; exact hx (List.cons.inj h).1
theorem laws_sameInts_ev (l m : List Int) (hl : l.length ≤ 35184372088832) : Ev (fun k => laws_sameInts.f k l m) (decide (l = m)) := by
  unfold laws_sameInts.f
  by_cases h : l.length = m.length
  · refine evPos (by omega) ?_
    exact laws_sameInts_l0 l m hl h l.length 0 (by omega)
  · refine evNeg (by omega) (evSome ?_)
    symm; rw [decide_eq_false_iff_not]; intro e; exact h (by rw [e])
theorem laws_sameInts_rfl (l : List Int) (hl : l.length ≤ 35184372088832) : Ev (fun k => laws_sameInts.f k l l) true := evEq (laws_sameInts_ev l l hl) (by simp)

theorem laws_sameArray_rfl (a b : List Int) (ha : a.length ≤ 1048576) (hb : b.length ≤ 1048576) : Ev (fun k => laws_sameArray.f k a b a b) true := by
  unfold laws_sameArray.f
  exact Ev.bind (laws_sameInts_rfl a (by omega)) (evPos rfl (Ev.bind (laws_sameInts_rfl b (by omega)) (Ev.now _)))

theorem laws_big_eq (l : List Int) : laws_big.f l = some (decide ((l.length : Int) > 1048576)) := rfl

theorem and255 (x : Int) : 0 ≤ Go.bits .and .i64 x 255 ∧ Go.bits .and .i64 x 255 ≤ 255 := by
  have h : Go.bits .and .i64 x 255 = IntKind.i64.wrap (((BitVec.ofInt 64 x).toNat &&& 255 : Nat) : Int) := by
    simp only [Go.bits, BitVec.toNat_and]; rfl
  have h2 : (BitVec.ofInt 64 x).toNat &&& 255 ≤ 255 := Nat.and_le_right
  rw [h, IntKind.wrap_i64]; omega
/-- A cursor's place lies in its bytes. -/
def Cu (c : List Int) (i : Int) : Prop := 0 ≤ i ∧ i ≤ c.length
theorem spec_l1Byte_dr (c : List Int) (i h : Int) (hc : Cu c i) (hl : c.length ≤ 1048576) : ∃ x i' h', spec_l1Byte.f c i h = some (x, i', h') ∧ (0 ≤ x ∧ x ≤ 255) ∧ Cu c i' := by
  obtain ⟨h0, h1⟩ := hc
  unfold spec_l1Byte.f
  by_cases h2 : i < (c.length : Int)
  · rw [if_pos h2, if_pos h0, w64 (x := i + 1) (by omega) (by omega)]
    exact ⟨_, _, _, rfl, and255 _, by omega, by omega⟩
  · rw [if_neg h2]
    exact ⟨_, _, _, rfl, and255 _, h0, h1⟩
theorem spec_l1Below_dr (c : List Int) (i h n : Int) (hc : Cu c i) (hl : c.length ≤ 1048576) : ∃ x i' h', spec_l1Below.f c i h n = some (x, i', h') ∧ (0 ≤ x ∧ (x < n ∨ n ≤ 0 ∧ x = 0)) ∧ Cu c i' := by
  unfold spec_l1Below.f
  by_cases h1 : n ≤ 0
  · rw [if_pos h1]; exact ⟨_, _, _, rfl, ⟨by omega, .inr ⟨h1, rfl⟩⟩, hc⟩
  · rw [if_neg h1]
    by_cases h2 : n ≤ 256
    · obtain ⟨x, i', h', e, hx, hc'⟩ := spec_l1Byte_dr c i h hc hl
      rw [if_pos h2, e, Option.bind_some, if_neg (by omega)]
      have h3 := Int.tmod_eq_emod_of_nonneg (b := n) hx.1
      have h4 := Int.emod_nonneg x (show n ≠ 0 by omega)
      have h5 := Int.emod_lt_of_pos x (show 0 < n by omega)
      exact ⟨_, _, _, rfl, ⟨by rw [h3]; exact h4, .inl (by rw [h3]; exact h5)⟩, hc'⟩
    · obtain ⟨x, i1, h1', e1, hx, hc1⟩ := spec_l1Byte_dr c i h hc hl
      obtain ⟨y, i2, h2', e2, hy, hc2⟩ := spec_l1Byte_dr c i1 h1' hc1 hl
      obtain ⟨z, i3, h3', e3, hz, hc3⟩ := spec_l1Byte_dr c i2 h2' hc2 hl
      obtain ⟨u, i4, h4', e4, hu, hc4⟩ := spec_l1Byte_dr c i3 h3' hc3 hl
      rw [if_neg h2, e1, Option.bind_some]; dsimp only
      rw [e2, Option.bind_some]; dsimp only
      rw [e3, Option.bind_some]; dsimp only
      rw [e4, Option.bind_some]; dsimp only
      rw [if_neg (by omega), w64 (x := x * 16777216) (by omega) (by omega), w64 (x := y * 65536) (by omega) (by omega), w64 (x := x * 16777216 + y * 65536) (by omega) (by omega), w64 (x := z * 256) (by omega) (by omega), w64 (x := x * 16777216 + y * 65536 + z * 256) (by omega) (by omega), w64 (x := x * 16777216 + y * 65536 + z * 256 + u) (by omega) (by omega)]
      generalize hq : x * 16777216 + y * 65536 + z * 256 + u = q
      have h3 := Int.tmod_eq_emod_of_nonneg (b := n) (show 0 ≤ q by omega)
      have h4 := Int.emod_nonneg q (show n ≠ 0 by omega)
      have h5 := Int.emod_lt_of_pos q (show 0 < n by omega)
      exact ⟨_, _, _, rfl, ⟨by rw [h3]; exact h4, .inl (by rw [h3]; exact h5)⟩, hc4⟩

theorem spec_l1New_l0 (c : List Int) (hl : c.length ≤ 1048576) (d : Nat) : ∀ (i : Nat) (h : Int), i + d = c.length → ∃ h', Ev (fun k => spec_l1New.l0 k c h (i : Int)) (c, 0, h') := by
  induction d with
  | zero =>
    intro i h hi
    refine ⟨h, Ev.step (f := fun _ => some (c, 0, h)) (fun k => ?_) (Ev.now _)⟩
    simp only [spec_l1New.l0]; rw [if_neg (by omega)]
  | succ d ih =>
    intro i h hi
    by_cases h4 : (i : Int) < 4000
    · obtain ⟨h', e⟩ := ih (i + 1) (Go.bits .and .i64 (wrap64 ((wrap64 ((wrap64 (h * 131)) + (wrap64 (rd c (i : Int))))) + 7)) 1073741823) (by omega)
      refine ⟨h', Ev.step (fun k => ?_) e⟩
      simp only [spec_l1New.l0]
      rw [if_pos (by omega), if_pos h4, if_pos (by omega), w64s i (by omega)]
    · refine ⟨h, Ev.step (f := fun _ => some (c, 0, h)) (fun k => ?_) (Ev.now _)⟩
      simp only [spec_l1New.l0]; rw [if_pos (by omega), if_neg h4]
theorem spec_l1New_dr (c : List Int) (hl : c.length ≤ 1048576) : ∃ h, Ev (fun k => spec_l1New.f k c) (c, 0, h) := by
  unfold spec_l1New.f
  exact spec_l1New_l0 c hl c.length 0 _ (by omega)
theorem cu0 (c : List Int) : Cu c 0 := ⟨Int.le_refl 0, by omega⟩

theorem spec_l1PickInt_dr (c : List Int) (i h : Int) (l : List Int) (hn : 0 < l.length) (hc : Cu c i) (hl : c.length ≤ 1048576) : ∃ x i' h', spec_l1PickInt.f c i h l = some (x, i', h') ∧ x ∈ l ∧ Cu c i' := by
  obtain ⟨x, i', h', e, hx, hc'⟩ := spec_l1Below_dr c i h (l.length : Int) hc hl
  have h1 : x < (l.length : Int) := by omega
  have h2 : x.toNat < l.length := by omega
  unfold spec_l1PickInt.f; rw [e, Option.bind_some]; dsimp only
  rw [if_pos hx.1, if_pos h1]
  refine ⟨_, _, _, rfl, ?_, hc'⟩
  simp only [rd, List.getD_eq_getElem?_getD, List.getElem?_eq_getElem h2, Option.getD_some]
  exact List.getElem_mem h2

theorem spec_l2DrawRight_dr (c : List Int) (i h : Int) (hc : Cu c i) (hl : c.length ≤ 1048576) : ∃ s i' h', Ev (fun k => spec_l2DrawRight.f k c i h) (s, i', h') ∧ (s.length ≤ 3 ∧ ∀ x ∈ s, 0 ≤ x ∧ x ≤ 5) ∧ Cu c i' := by
  unfold spec_l2DrawRight.f
  obtain ⟨x, i1, h1, e1, hx, hc1⟩ := spec_l1Below_dr c i h 5 hc hl
  by_cases x0 : x = 0
  · exact ⟨_, _, _, evBind0 e1 (evPos x0 (Ev.now _)), ⟨by simp, by simp⟩, hc1⟩
  · have hj : ∀ b, ∃ s i' h', Ev (fun k => spec_l2DrawRight.j0 k x b c i1 h1) (s, i', h') ∧ (s.length ≤ 3 ∧ ∀ x ∈ s, 0 ≤ x ∧ x ≤ 5) ∧ Cu c i' := by
      intro b
      cases b with
      | true =>
        obtain ⟨y, i2, h2, e2, hy, hc2⟩ := spec_l1Below_dr c i1 h1 6 hc1 hl
        refine ⟨_, _, _, Ev.step (fun k => by rw [spec_l2DrawRight.j0]) (evPos rfl (evBind0 e2 (Ev.now _))), ?_, hc2⟩
        dsimp only
        refine ⟨by simp, fun z hz => ?_⟩
        rw [List.mem_singleton] at hz; omega
      | false =>
        by_cases x3 : x = 3
        · obtain ⟨y, i2, h2, e2, hy, hc2⟩ := spec_l1Below_dr c i1 h1 4 hc1 hl
          obtain ⟨z, i3, h3, e3, hz, hc3⟩ := spec_l1Below_dr c i2 h2 3 hc2 hl
          refine ⟨[y, wrap64 (1 + z)], i3, h3, Ev.step (fun k => by rw [spec_l2DrawRight.j0]) (evNeg (by simp) (evPos x3 (evBind0 e2 ?_))), ?_, hc3⟩
          · exact evBind0 (a := (z, i3, h3)) e3 (Ev.now ([y, wrap64 (1 + z)], i3, h3))
          rw [w64 (x := 1 + z) (by omega) (by omega)]
          refine ⟨by simp, fun u hu => ?_⟩
          simp only [List.mem_cons, List.not_mem_nil, or_false] at hu; omega
        · obtain ⟨y, i2, h2, e2, hy, hc2⟩ := spec_l1Below_dr c i1 h1 3 hc1 hl
          obtain ⟨z, i3, h3, e3, hz, hc3⟩ := spec_l1Below_dr c i2 h2 2 hc2 hl
          obtain ⟨v, i4, h4, e4, hv, hc4⟩ := spec_l1Below_dr c i3 h3 4 hc3 hl
          refine ⟨[wrap64 (1 + y), wrap64 (1 + z), v], i4, h4, Ev.step (fun k => by rw [spec_l2DrawRight.j0]) (evNeg (by simp) (evNeg x3 (evBind0 e2 ?_))), ?_, hc4⟩
          · exact evBind0 (a := (z, i3, h3)) e3 (evBind0 (a := (v, i4, h4)) e4 (Ev.now ([wrap64 (1 + y), wrap64 (1 + z), v], i4, h4)))
          rw [w64 (x := 1 + y) (by omega) (by omega), w64 (x := 1 + z) (by omega) (by omega)]
          refine ⟨by simp, fun u hu => ?_⟩
          simp only [List.mem_cons, List.not_mem_nil, or_false] at hu; omega
    by_cases x1 : x = 1
    · obtain ⟨s, i', h', e, r⟩ := hj (x == 1)
      exact ⟨s, i', h', evBind0 e1 (evNeg x0 (evPos x1 e)), r⟩
    · obtain ⟨s, i', h', e, r⟩ := hj (x == 2)
      exact ⟨s, i', h', evBind0 e1 (evNeg x0 (evNeg x1 e)), r⟩
theorem spec_l2Draw_dr (c : List Int) (i h : Int) (hc : Cu c i) (hl : c.length ≤ 1048576) : ∃ s i' h', Ev (fun k => spec_l2Draw.f k c i h) (s, i', h') ∧ (s.length ≤ 4 ∧ ∀ x ∈ s, -1 ≤ x ∧ x ≤ 301) ∧ Cu c i' := by
  unfold spec_l2Draw.f
  obtain ⟨s, i1, h1, e1, ⟨hs, hx⟩, hc1⟩ := spec_l2DrawRight_dr c i h hc hl
  obtain ⟨x, i2, h2, e2, _, hc2⟩ := spec_l1Below_dr c i1 h1 20 hc1 hl
  by_cases x0 : x = 0
  · obtain ⟨y, i3, h3, e3, hy, hc3⟩ := spec_l1PickInt_dr c i2 h2 [-1, 0, 300, 301] (by decide) hc2 hl
    refine ⟨_, _, _, Ev.bind e1 (evBind0 e2 (evPos x0 (evBind0 e3 (evPos (by dsimp only; omega) (Ev.now _))))), ?_, hc3⟩
    dsimp only
    refine ⟨by rw [List.length_append]; simp; omega, fun u hu => ?_⟩
    rw [List.mem_append, List.mem_singleton] at hu
    simp only [List.mem_cons, List.not_mem_nil, or_false] at hy
    rcases hu with hu | hu
    · have := hx u hu; omega
    · omega
  by_cases x1 : x = 1
  · exact ⟨_, _, _, Ev.bind e1 (evBind0 e2 (evNeg x0 (evPos x1 (Ev.now _)))), ⟨by simp, by simp⟩, hc2⟩
  by_cases x2 : x = 2
  · obtain ⟨y, i3, h3, e3, hy, hc3⟩ := spec_l1PickInt_dr c i2 h2 [17, 20, 15, 300] (by decide) hc2 hl
    obtain ⟨z, i4, h4, e4, hz, hc4⟩ := spec_l1PickInt_dr c i3 h3 [15, 20, 16, 0] (by decide) hc3 hl
    refine ⟨_, _, _, Ev.bind e1 (evBind0 e2 (evNeg x0 (evNeg x1 (evPos x2 (evBind0 e3 (evBind0 e4 (Ev.now _))))))), ?_, hc4⟩
    dsimp only
    refine ⟨by simp, fun u hu => ?_⟩
    simp only [List.mem_cons, List.not_mem_nil, or_false] at hu hy hz; omega
  · exact ⟨_, _, _, Ev.bind e1 (evBind0 e2 (evNeg x0 (evNeg x1 (evNeg x2 (Ev.now _))))), ⟨by dsimp only; omega, fun u hu => by have := hx u hu; omega⟩, hc2⟩

theorem spec_l1Once_dr (c : List Int) (i h n : Int) (hc : Cu c i) (hl : c.length ≤ 1048576) : ∃ x i' h', spec_l1Once.f c i h n = some (x, i', h') ∧ Cu c i' := by
  obtain ⟨x, i', h', e, _, hc'⟩ := spec_l1Below_dr c i h n hc hl
  unfold spec_l1Once.f; rw [e, Option.bind_some]
  exact ⟨_, _, _, rfl, hc'⟩

theorem spec_l1DrawNum_dr (c : List Int) (i h : Int) (hc : Cu c i) (hl : c.length ≤ 1048576) : ∃ x i' h', spec_l1DrawNum.f c i h = some (x, i', h') ∧ (-1000000000000 ≤ x ∧ x ≤ 1000000000000) ∧ Cu c i' := by
  obtain ⟨b, i1, h1, e1, hc1⟩ := spec_l1Once_dr c i h 12 hc hl
  unfold spec_l1DrawNum.f; rw [e1, Option.bind_some]; dsimp only
  cases b with
  | true =>
    obtain ⟨x, i2, h2, e2, hx, hc2⟩ := spec_l1PickInt_dr c i1 h1 [1000000000000, -1000000000000, 999999999999, 1000000, -1000000, 1000001, 999999999999] (by decide) hc1 hl
    rw [if_pos rfl, e2, Option.bind_some]
    refine ⟨_, _, _, rfl, ?_, hc2⟩
    simp only [List.mem_cons, List.not_mem_nil, or_false] at hx
    dsimp only
    omega
  | false =>
    obtain ⟨x, i2, h2, e2, hx, hc2⟩ := spec_l1Below_dr c i1 h1 20 hc1 hl
    rw [if_neg (by simp), e2, Option.bind_some]
    refine ⟨_, _, _, rfl, ?_, hc2⟩
    dsimp only
    rw [w64 (by omega) (by omega)]; omega

theorem spec_l1DrawRaw_dr (c : List Int) (i h : Int) (hc : Cu c i) (hl : c.length ≤ 1048576) : ∃ x i' h', spec_l1DrawRaw.f c i h = some (x, i', h') ∧ (-9223372036854775808 ≤ x ∧ x ≤ 9223372036854775807) ∧ Cu c i' := by
  obtain ⟨b, i1, h1, e1, hc1⟩ := spec_l1Once_dr c i h 15 hc hl
  unfold spec_l1DrawRaw.f; rw [e1, Option.bind_some]; dsimp only
  cases b with
  | true =>
    obtain ⟨x, i2, h2, e2, hx, hc2⟩ := spec_l1PickInt_dr c i1 h1 [1000000000001, -1000000000001, 9223372036854775807, -9223372036854775808] (by decide) hc1 hl
    rw [if_pos rfl, e2, Option.bind_some]
    refine ⟨_, _, _, rfl, ?_, hc2⟩
    simp only [List.mem_cons, List.not_mem_nil, or_false] at hx
    dsimp only
    omega
  | false =>
    obtain ⟨x, i2, h2, e2, hx, hc2⟩ := spec_l1DrawNum_dr c i1 h1 hc1 hl
    rw [if_neg (by simp), e2, Option.bind_some]
    refine ⟨_, _, _, rfl, ?_, hc2⟩
    dsimp only
    omega

theorem spec_l3Fill_l0 (c s : List Int) (hl : c.length ≤ 1048576) (n : Nat) : ∀ (j : Nat) (d : List Int) (i h : Int), szOf s - j ≤ n → d.length = j → j ≤ 300 → (∀ x ∈ d, -1000000000000 ≤ x ∧ x ≤ 1000000000000) → Cu c i → ∃ e i' h', Ev (fun k => spec_l3Fill.l0 k s (j : Int) c i h s d) (s, e, i', h') ∧ (e.length ≤ 300 ∧ ∀ x ∈ e, -1000000000000 ≤ x ∧ x ≤ 1000000000000) ∧ Cu c i' := by
  have hz := szOf_ge s
  induction n with
  | zero =>
    intro j d i h hn hd hj hx hc
    refine ⟨d, i, h, Ev.step (fun k => by rw [spec_l3Fill.l0]) ?_, ⟨by omega, hx⟩, hc⟩
    refine Ev.bind (spec_SizeOf_ev s) ?_
    exact evNeg (by omega) (Ev.now _)
  | succ n ih =>
    intro j d i h hn hd hj hx hc
    by_cases hlt : (j : Int) < szOf s
    · obtain ⟨y, i1, h1, e1, hy, hc1⟩ := spec_l1DrawNum_dr c i h hc hl
      obtain ⟨e, i2, h2, ee, he, hc2⟩ := ih (j + 1) (d ++ [y]) i1 h1 (by omega) (by simp [hd]) (by omega) (fun x hx' => by
        rcases List.mem_append.1 hx' with h | h
        · exact hx x h
        · rw [List.mem_singleton] at h; omega) hc1
      refine ⟨e, i2, h2, Ev.step (fun k => by rw [spec_l3Fill.l0]) ?_, he, hc2⟩
      refine Ev.bind (spec_SizeOf_ev s) (evPos hlt (evBind0 e1 ?_))
      dsimp only
      rw [w64s j (by omega)]
      exact evPos (by omega) ee
    · refine ⟨d, i, h, Ev.step (fun k => by rw [spec_l3Fill.l0]) ?_, ⟨by omega, hx⟩, hc⟩
      exact Ev.bind (spec_SizeOf_ev s) (evNeg hlt (Ev.now _))
theorem spec_l3Fill_dr (c : List Int) (i h : Int) (s : List Int) (hs : s.length ≤ 100) (hc : Cu c i) (hl : c.length ≤ 1048576) : ∃ e i' h', Ev (fun k => spec_l3Fill.f k c i h s) (s, e, i', h') ∧ (e.length ≤ 300 ∧ ∀ x ∈ e, -1000000000000 ≤ x ∧ x ≤ 1000000000000) ∧ Cu c i' := by
  unfold spec_l3Fill.f
  have hz := szOf_ge s
  obtain ⟨e, i1, h1, ee, he, hc1⟩ := spec_l3Fill_l0 c s hl 300 0 [] i h (by omega) rfl (by omega) (by simp) hc
  exact ⟨e, i1, h1, evLet (evPos (by rw [List.length_nil]; omega) (by simpa using ee)), he, hc1⟩
theorem spec_l3DrawRight_dr (c : List Int) (i h : Int) (hc : Cu c i) (hl : c.length ≤ 1048576) : ∃ s d i' h', Ev (fun k => spec_l3DrawRight.f k c i h) (s, d, i', h') ∧ (s.length ≤ 3 ∧ d.length ≤ 300 ∧ ∀ x ∈ d, -1000000000000 ≤ x ∧ x ≤ 1000000000000) ∧ Cu c i' := by
  unfold spec_l3DrawRight.f
  obtain ⟨s, i1, h1, e1, ⟨hs, _⟩, hc1⟩ := spec_l2DrawRight_dr c i h hc hl
  obtain ⟨d, i2, h2, e2, hd, hc2⟩ := spec_l3Fill_dr c i1 h1 s (by omega) hc1 hl
  exact ⟨s, d, i2, h2, Ev.bind e1 (Ev.bind e2 (Ev.now _)), ⟨hs, hd⟩, hc2⟩
theorem spec_l3Draw_dr (c : List Int) (i h : Int) (hc : Cu c i) (hl : c.length ≤ 1048576) : ∃ s d i' h', Ev (fun k => spec_l3Draw.f k c i h) (s, d, i', h') ∧ (s.length ≤ 4 ∧ d.length ≤ 301 ∧ ∀ x ∈ d, -9223372036854775808 ≤ x ∧ x ≤ 9223372036854775807) ∧ Cu c i' := by
  unfold spec_l3Draw.f
  obtain ⟨s, d, i1, h1, e1, ⟨hs, hd, hx⟩, hc1⟩ := spec_l3DrawRight_dr c i h hc hl
  obtain ⟨x, i2, h2, e2, hx2, hc2⟩ := spec_l1Below_dr c i1 h1 20 hc1 hl
  have hw : ∀ x ∈ d, -9223372036854775808 ≤ x ∧ x ≤ 9223372036854775807 := fun x h => by have := hx x h; omega
  by_cases x0 : x = 0
  · refine ⟨s, d ++ [1], i2, h2, Ev.bind e1 (evBind0 e2 ?_), ⟨by omega, by simp; omega, fun y hy => ?_⟩, hc2⟩
    · dsimp only
      exact evPos x0 (evPos (by omega) (Ev.now _))
    · rcases List.mem_append.1 hy with h | h
      · exact hw y h
      · rw [List.mem_singleton] at h; omega
  by_cases x1 : x = 1
  · obtain ⟨s2, i3, h3, e3, ⟨hs2, _⟩, hc3⟩ := spec_l2Draw_dr c i2 h2 hc2 hl
    refine ⟨s2, d, i3, h3, Ev.bind e1 (evBind0 e2 ?_), ⟨hs2, by omega, hw⟩, hc3⟩
    dsimp only
    exact evNeg x0 (evPos x1 (Ev.bind e3 (Ev.now _)))
  by_cases x2 : x = 2
  · by_cases hd0 : (d.length : Int) > 0
    · obtain ⟨p, i3, h3, e3, hp, hc3⟩ := spec_l1Below_dr c i2 h2 (d.length : Int) hc2 hl
      obtain ⟨y, i4, h4, e4, hy, hc4⟩ := spec_l1DrawRaw_dr c i3 h3 hc3 hl
      refine ⟨s, d.set p.toNat y, i4, h4, Ev.bind e1 (evBind0 e2 ?_), ⟨by omega, by rw [List.length_set]; omega, fun z hz => ?_⟩, hc4⟩
      · dsimp only
        refine evNeg x0 (evNeg x1 (evPos x2 (evPos hd0 (evBind0 e3 ?_))))
        dsimp only
        refine evBind0 e4 ?_
        dsimp only
        exact evPos hp.1 (evPos (by omega) (Ev.now _))
      · rcases List.mem_or_eq_of_mem_set hz with h | h
        · exact hw z h
        · omega
    · refine ⟨s, d, i2, h2, Ev.bind e1 (evBind0 e2 ?_), ⟨by omega, by omega, hw⟩, hc2⟩
      dsimp only
      exact evNeg x0 (evNeg x1 (evPos x2 (evNeg hd0 (Ev.now _))))
  by_cases x3 : x = 3
  · obtain ⟨p, i3, h3, e3, hp, hc3⟩ := spec_l1Below_dr c i2 h2 2 hc2 hl
    have hq : wrap64 (300 + p) = 300 + p := w64 (by omega) (by omega)
    refine ⟨[300], List.replicate (300 + p).toNat 0, i3, h3, Ev.bind e1 (evBind0 e2 ?_), ⟨by simp, by rw [List.length_replicate]; omega, fun z hz => ?_⟩, hc3⟩
    · dsimp only
      refine evNeg x0 (evNeg x1 (evNeg x2 (evPos x3 (evBind0 e3 ?_))))
      dsimp only
      rw [hq]
      exact evPos (by omega) (evPos (by omega) (Ev.now _))
    · have := List.eq_of_mem_replicate hz; omega
  · refine ⟨s, d, i2, h2, Ev.bind e1 (evBind0 e2 ?_), ⟨by omega, by omega, hw⟩, hc2⟩
    dsimp only
    exact evNeg x0 (evNeg x1 (evNeg x2 (evNeg x3 (Ev.now _))))

theorem spec_l1DrawSign_dr (c : List Int) (i h : Int) (hc : Cu c i) (hl : c.length ≤ 1048576) : ∃ x i' h', spec_l1DrawSign.f c i h = some (x, i', h') ∧ Cu c i' := by
  obtain ⟨b, i1, h1, e1, hc1⟩ := spec_l1Once_dr c i h 20 hc hl
  unfold spec_l1DrawSign.f; rw [e1, Option.bind_some]; dsimp only
  cases b with
  | true =>
    obtain ⟨x, i2, h2, e2, hx, hc2⟩ := spec_l1PickInt_dr c i1 h1 [0, -1, 105, 300, 47] (by decide) hc1 hl
    rw [if_pos rfl, e2, Option.bind_some]
    exact ⟨_, _, _, rfl, hc2⟩
  | false =>
    obtain ⟨x, i2, h2, e2, hx, hc2⟩ := spec_l1PickInt_dr c i1 h1 [43, 45, 42, 37, 124, 38, 94, 61, 60, 62, 126] (by decide) hc1 hl
    rw [if_neg (by simp), e2, Option.bind_some]
    exact ⟨_, _, _, rfl, hc2⟩

theorem spec_DrawEachOne_l0 (c s : List Int) (hl : c.length ≤ 1048576) (x : Int) (n : Nat) : ∀ (j : Nat) (d : List Int) (i h : Int), j + n = d.length → d.length ≤ 301 → Cu c i → ∃ e, Ev (fun k => spec_DrawEachOne.l0 k x (j : Int) c i h s d) (x, s, e) ∧ e.length ≤ 301 := by
  induction n with
  | zero =>
    intro j d i h hj hd hc
    refine ⟨d, Ev.step (fun k => by rw [spec_DrawEachOne.l0]) ?_, hd⟩
    exact evNeg (by omega) (Ev.now _)
  | succ n ih =>
    intro j d i h hj hd hc
    obtain ⟨y, i1, h1, e1, _, hc1⟩ := spec_l1Below_dr c i h 2 hc hl
    obtain ⟨e, ee, he⟩ := ih (j + 1) (d.set j y) i1 h1 (by rw [List.length_set]; omega) (by rw [List.length_set]; omega) hc1
    refine ⟨e, Ev.step (fun k => by rw [spec_DrawEachOne.l0]) ?_, he⟩
    refine evPos (by omega) (evBind0 e1 ?_)
    dsimp only
    rw [w64s j (by omega), Int.toNat_natCast]
    exact evPos (by omega) ee
theorem spec_DrawEachOne_dr (c : List Int) (hl : c.length ≤ 1048576) : ∃ x s d, Ev (fun k => spec_DrawEachOne.f k c) (x, s, d) ∧ s.length ≤ 4 ∧ d.length ≤ 301 := by
  unfold spec_DrawEachOne.f
  obtain ⟨h0, e0⟩ := spec_l1New_dr c hl
  obtain ⟨x, i1, h1, e1, hc1⟩ := spec_l1DrawSign_dr c 0 h0 (cu0 c) hl
  obtain ⟨s, d, i2, h2, e2, ⟨hs, hd, _⟩, hc2⟩ := spec_l3Draw_dr c i1 h1 hc1 hl
  by_cases hx : x = 126
  · obtain ⟨b, i3, h3, e3, hc3⟩ := spec_l1Once_dr c i2 h2 2 hc2 hl
    cases b with
    | true =>
      obtain ⟨e, ee, he⟩ := spec_DrawEachOne_l0 c s hl x d.length 0 d i3 h3 (by omega) hd hc3
      refine ⟨x, s, e, Ev.bind e0 (evBind0 e1 (Ev.bind e2 ?_)), hs, he⟩
      dsimp only
      refine evPos hx (evBind0 e3 ?_)
      dsimp only
      refine Ev.step (fun k => by rw [spec_DrawEachOne.j0]) ?_
      exact evPos rfl ee
    | false =>
      refine ⟨x, s, d, Ev.bind e0 (evBind0 e1 (Ev.bind e2 ?_)), hs, hd⟩
      dsimp only
      refine evPos hx (evBind0 e3 ?_)
      dsimp only
      refine Ev.step (fun k => by rw [spec_DrawEachOne.j0]) ?_
      exact evNeg (by simp) (Ev.now _)
  · refine ⟨x, s, d, Ev.bind e0 (evBind0 e1 (Ev.bind e2 ?_)), hs, hd⟩
    dsimp only
    refine evNeg hx ?_
    refine Ev.step (fun k => by rw [spec_DrawEachOne.j0]) ?_
    exact evNeg (by simp) (Ev.now _)

theorem one_neg {x : Int} (h : okN x = true) : one 45 x = (-x, 0) := by
  unfold one; rw [if_pos ⟨by decide, h⟩, if_pos rfl]
theorem mapE_neg : ∀ (d : List Int), d.all okN = true → mapE (one 45) d = (d.map (fun x => -x), 0)
  | [], _ => rfl
  | x :: d, h => by
    rw [List.all_cons, Bool.and_eq_true] at h
    rw [mapE, one_neg h.1, mapE_neg d h.2]; simp
theorem neg_neg_map : ∀ (d : List Int), (d.map (fun x => -x)).map (fun x => -x) = d
  | [] => rfl
  | a :: d => by rw [List.map_cons, List.map_cons, neg_neg_map d, Int.neg_neg]
theorem all_neg (d : List Int) (h : d.all okN = true) : (d.map (fun x => -x)).all okN = true := by
  rw [List.all_eq_true] at h ⊢
  intro x hx
  obtain ⟨y, hy, rfl⟩ := List.mem_map.1 hx
  have h2 := okN_t (h y hy)
  exact decide_eq_true (by omega)
theorem eachOne_neg {s d : List Int} (h : arrayOk s d = true) : eachOne 45 s d = (s, d.map (fun x => -x), 0) ∧ arrayOk s (d.map (fun x => -x)) = true := by
  have h1 : d.all okN = true := by unfold arrayOk at h; rw [Bool.and_eq_true] at h; exact h.2
  refine ⟨?_, ?_⟩
  · unfold eachOne
    rw [if_pos ⟨h, by decide⟩, mapE_neg d h1, if_pos rfl]
  · unfold arrayOk at h ⊢
    rw [Bool.and_eq_true] at h ⊢
    rw [List.length_map]; exact ⟨h.1, all_neg d h1⟩
theorem FnEachOne_l0' (x how : Int) (s d so o : List Int) (hs : s.length ≤ 1000) (hd : d.length ≤ 301) (ho : o.length ≤ d.length) (hg : ∀ i, (hi : i < o.length) → one x (d[i]'(by omega)) = (o[i], 0)) (hend : how = 0 ∧ so = s ∧ o.length = d.length ∨ how ≠ 0 ∧ o.length = 0) (n : Nat) : ∀ i : Nat, i + n = o.length → Ev (fun k => laws_FnEachOne.l0 k x how (i : Int) s d so o) true := by
  induction n with
  | zero =>
    intro i hi
    refine Ev.step (fun k => by rw [laws_FnEachOne.l0]) ?_
    refine evNeg (by omega) ?_
    rcases hend with ⟨h1, h2, h3⟩ | ⟨h1, h2⟩
    · subst h2
      exact evPos h1 (Ev.bind (laws_sameInts_rfl so (by omega)) (evPos rfl (evSome (by simp [h3]))))
    · exact evNeg h1 (evPos (by omega) (Ev.now _))
  | succ n ih =>
    intro i hi
    have hlt : i < o.length := by omega
    have hlt' : i < d.length := by omega
    refine Ev.step (f := fun k => (impl_One.f k x d[i]).bind fun bt => (if bt.2 = 0 then (if bt.1 = o[i] then (laws_FnEachOne.l0 k x how ((i + 1 : Nat) : Int) s d so o) else (some false)) else (some false))) (fun k => ?_) (Ev.bind (impl_One_ev x d[i]) ?_)
    · rw [laws_FnEachOne.l0, if_pos (by omega), if_pos (by omega), if_pos (by omega), rdn d i hlt', rdn o i hlt, w64s i (by omega)]
    · rw [hg i hlt]
      exact evPos rfl (evPos rfl (ih (i + 1) (by omega)))
theorem FnEachOne : laws_FnEachOne.Pure := by
  intro l _ _ _
  refine Ev.rounds (g := fun k => laws_FnEachOne.f k l) ?_
  unfold laws_FnEachOne.f
  refine evBind0 (laws_big_eq l) ?_
  by_cases hb : (l.length : Int) > 1048576
  · exact evPos (decide_eq_true hb) (Ev.now _)
  refine evNeg (by simpa using hb) ?_
  have hl : l.length ≤ 1048576 := by omega
  obtain ⟨x, s, d, e, hs, hd⟩ := spec_DrawEachOne_dr l hl
  have hc := eachOne_len 45 s d (by omega) (by omega)
  refine Ev.bind e (Ev.bind (impl_EachOne_ev x s d (by omega) (by omega)) (Ev.bind (spec_EachOne_ev x s d (by omega) (by omega)) (evPos rfl (Ev.bind (impl_EachOne_ev 45 s d (by omega) (by omega)) (Ev.bind (impl_EachOne_ev 45 _ _ hc.1 hc.2) (Ev.bind (spec_ArrayOk_ev s d (by omega)) ?_))))))
  dsimp only
  have hj : Ev (fun k => laws_FnEachOne.j0 k x (eachOne x s d).2.2 false s d (eachOne x s d).1 (eachOne x s d).2.1) true := by
    refine Ev.step (fun k => by rw [laws_FnEachOne.j0]) (evNeg (by simp) ?_)
    by_cases h : arrayOk s d = true ∧ sign1 x = true
    · by_cases h2 : (mapE (one x) d).2 = 0
      · have e1 : eachOne x s d = (s, (mapE (one x) d).1, 0) := by unfold eachOne; rw [if_pos h, if_pos h2]
        have h3 := (mapE_length (one x) d).2 h2
        rw [e1]
        refine FnEachOne_l0' x 0 s d s (mapE (one x) d).1 (by omega) hd (by omega) (fun i hi => ?_) (.inl ⟨rfl, rfl, h3⟩) (mapE (one x) d).1.length 0 (by omega)
        have h4 := mapE_get (one x) d i (by omega) h2
        rw [h4.2]
        exact Prod.ext rfl h4.1
      · have e1 : eachOne x s d = ([], [], (mapE (one x) d).2) := by unfold eachOne; rw [if_pos h, if_neg h2]
        rw [e1]
        exact FnEachOne_l0' x _ s d [] [] (by omega) hd (by simp) (fun i hi => absurd hi (Nat.not_lt_zero i)) (.inr ⟨h2, rfl⟩) 0 0 rfl
    · have e1 : eachOne x s d = ([], [], 1) := by unfold eachOne; rw [if_neg h]
      rw [e1]
      exact FnEachOne_l0' x 1 s d [] [] (by omega) hd (by simp) (fun i hi => absurd hi (Nat.not_lt_zero i)) (.inr ⟨by decide, rfl⟩) 0 0 rfl
  by_cases h : arrayOk s d = true
  · refine evPos h ?_
    obtain ⟨h1, h2⟩ := eachOne_neg h
    obtain ⟨h3, _⟩ := eachOne_neg h2
    have h4 := neg_neg_map d
    rw [h1]; dsimp only
    rw [h3, h4]
    exact evPos rfl (evPos rfl (Ev.bind (laws_sameArray_rfl s d (by omega) (by omega)) hj))
  · exact evNeg h hj

end Go.Proofs.Ytlpgopiajkajjaa.Pure
