/- The law FnExactEachTwo answers true for each sign and any two arrays: the program's EachTwo is the reference's, and what it hands back is its own memory. Conditions: those of the row's own reading alone. -/
import Derived.Test.YtjkbndfaemjjiaaPFnExactEachTwox
namespace Go.Proofs.Ytjkbndfaemjjiaa.Pure
open Go.RowKit Go.Proofs.Ytjkbndfaemjjiaa.PFnExactEachTwo Go.Proofs.YtjkbndfaemjjiaaW.PrintWords Go.Proofs.YtjkbndfaemjjiaaW.PrintLast Go.Proofs.YtjkbndfaemjjiaaW.PrintMore
set_option linter.unusedVariables false
set_option linter.unusedSimpArgs false

section
variable {α β : Type}
theorem evPos {c : Prop} [Decidable c] {g h : Nat → Option α} {r : α} (hc : c) (e : Ev g r) : Ev (fun k => if c then g k else h k) r := by
  simpa only [if_pos hc] using e
theorem evNeg {c : Prop} [Decidable c] {g h : Nat → Option α} {r : α} (hc : ¬ c) (e : Ev h r) : Ev (fun k => if c then g k else h k) r := by
  simpa only [if_neg hc] using e
theorem evBind0 {o : Option α} {f : Nat → α → Option β} {a : α} {r : β} (h : o = some a) (k : Ev (fun n => f n a) r) : Ev (fun n => o.bind (f n)) r := by
  subst h; simpa only [Option.bind_some] using k
theorem evLet {a : α} {f : Nat → α → Option β} {r : β} (k : Ev (fun n => f n a) r) : Ev (fun n => (some a).bind (f n)) r := by
  simpa only [Option.bind_some] using k
theorem evEq {g : Nat → Option α} {r r' : α} (h : Ev g r) (e : r = r') : Ev g r' := e ▸ h
theorem evSomeEq {o : Option α} {r : α} (e : o = some r) : Ev (fun _ => o) r := e ▸ Ev.now r
theorem evSome {a r : α} (e : a = r) : Ev (fun _ => some a) r := e ▸ Ev.now a
end
theorem w64 {x : Int} (h : -9223372036854775808 ≤ x) (h' : x ≤ 9223372036854775807) : wrap64 x = x := by unfold wrap64; omega
theorem w64s (i : Nat) (h : i < 4611686018427387904) : wrap64 ((i : Int) + 1) = ((i + 1 : Nat) : Int) := by rw [w64] <;> omega
theorem rdn (l : List Int) (i : Nat) (h : i < l.length) : rd l (i : Int) = l[i] := by
  simp only [rd, Int.toNat_natCast, List.getD_eq_getElem?_getD, List.getElem?_eq_getElem h, Option.getD_some]
theorem wfI {x : Int} (h : (Lit.int .i64 x).wf = true) : -9223372036854775808 ≤ x ∧ x ≤ 9223372036854775807 := by
  have h2 : (decide (IntKind.i64.min ≤ x) && decide (x ≤ IntKind.i64.max)) = true := h
  rw [Bool.and_eq_true, decide_eq_true_iff, decide_eq_true_iff] at h2
  have e1 : IntKind.i64.min = -9223372036854775808 := by decide
  have e2 : IntKind.i64.max = 9223372036854775807 := by decide
  rw [e1, e2] at h2
  exact h2

/-- The product of a list. -/
def prod : List Int → Int
  | [] => 1
  | x :: l => x * prod l
/-- May these stand in a shape? -/
def inR (l : List Int) : Bool := l.all fun n => decide (0 ≤ n ∧ n ≤ 300)
/-- How many numbers an array of a shape has; -1 where the shape isn't right. -/
def szOf (l : List Int) : Int := if 3 < l.length then -1 else if inR l = true then (if prod l > 300 then -1 else prod l) else -1
theorem mul300 {a b : Int} {m n : Int} (h0 : 0 ≤ a) (h1 : a ≤ m) (h2 : 0 ≤ b) (h3 : b ≤ n) : 0 ≤ a * b ∧ a * b ≤ m * n :=
  ⟨Int.mul_nonneg h0 h2, Int.mul_le_mul h1 h3 h2 (Int.le_trans h0 h1)⟩
theorem shape_cases {l : List Int} (h : ¬ 3 < l.length) : l = [] ∨ (∃ a, l = [a]) ∨ (∃ a b, l = [a, b]) ∨ ∃ a b c, l = [a, b, c] := by
  match l, h with
  | [], _ => exact .inl rfl
  | [a], _ => exact .inr (.inl ⟨a, rfl⟩)
  | [a, b], _ => exact .inr (.inr (.inl ⟨a, b, rfl⟩))
  | [a, b, c], _ => exact .inr (.inr (.inr ⟨a, b, c, rfl⟩))
  | _ :: _ :: _ :: _ :: _, h => exact absurd (by simp) h
theorem inR_cons {a : Int} {l : List Int} : inR (a :: l) = true ↔ (0 ≤ a ∧ a ≤ 300) ∧ inR l = true := by
  simp [inR]
/-- A part of a shape's product stays small. -/
def pw : Nat → Int
  | 0 => 1
  | n + 1 => 300 * pw n
theorem prod_le : ∀ (l : List Int), inR l = true → 0 ≤ prod l ∧ prod l ≤ pw l.length
  | [], _ => by simp [prod, pw]
  | a :: l, h => by
    obtain ⟨⟨h0, h1⟩, h2⟩ := inR_cons.1 h
    obtain ⟨h3, h4⟩ := prod_le l h2
    exact mul300 h0 h1 h3 h4
theorem prod_append : ∀ (a b : List Int), prod (a ++ b) = prod a * prod b
  | [], b => by simp [prod]
  | x :: a, b => by simp [prod, prod_append a b, Int.mul_assoc]
theorem pw_le {n : Nat} (h : n ≤ 3) : pw n ≤ 27000000 := by
  match n, h with
  | 0, _ => decide
  | 1, _ => decide
  | 2, _ => decide
  | 3, _ => decide
theorem inR_take {l : List Int} (i : Nat) (h : inR l = true) : inR (l.take i) = true := by
  simp only [inR, List.all_eq_true] at h ⊢
  exact fun x hx => h x (List.mem_of_mem_take hx)
theorem prod_take_succ (l : List Int) (i : Nat) (h : i < l.length) : prod (l.take (i + 1)) = prod (l.take i) * l[i] := by
  rw [List.take_succ_eq_append_getElem h, prod_append]; simp [prod]
/-- The product so far is small. -/
theorem prod_take_le (l : List Int) (i : Nat) (hl : ¬ 3 < l.length) (h : inR (l.take i) = true) : 0 ≤ prod (l.take i) ∧ prod (l.take i) ≤ 27000000 := by
  obtain ⟨h0, h1⟩ := prod_le _ h
  have h2 : (l.take i).length ≤ 3 := by rw [List.length_take]; omega
  exact ⟨h0, Int.le_trans h1 (pw_le h2)⟩
theorem inR_take_succ (l : List Int) (i : Nat) (h : i < l.length) : inR (l.take (i + 1)) = true ↔ inR (l.take i) = true ∧ (0 ≤ l[i] ∧ l[i] ≤ 300) := by
  unfold inR
  rw [List.take_succ_eq_append_getElem h, List.all_append, Bool.and_eq_true]; simp
theorem inR_not {l : List Int} (i : Nat) (h : i < l.length) (hx : ¬ (0 ≤ l[i] ∧ l[i] ≤ 300)) : inR l = false := by
  rw [← Bool.not_eq_true]
  intro hh
  simp only [inR, List.all_eq_true] at hh
  exact hx (of_decide_eq_true (hh _ (List.getElem_mem h)))
theorem szOf_ge (l : List Int) : -1 ≤ szOf l ∧ szOf l ≤ 300 := by
  unfold szOf
  by_cases h1 : 3 < l.length
  · rw [if_pos h1]; omega
  · rw [if_neg h1]
    by_cases h2 : inR l = true
    · rw [if_pos h2]
      have := (prod_le l h2).1
      by_cases h3 : prod l > 300
      · rw [if_pos h3]; omega
      · rw [if_neg h3]; omega
    · rw [if_neg h2]; omega

/-- A right number. -/
def okN (x : Int) : Bool := decide (-1000000000000 ≤ x ∧ x ≤ 1000000000000)
theorem okN_t {x : Int} (h : okN x = true) : -1000000000000 ≤ x ∧ x ≤ 1000000000000 := of_decide_eq_true h
theorem okN_f {x : Int} (h : okN x = false) : ¬ (-1000000000000 ≤ x ∧ x ≤ 1000000000000) := of_decide_eq_false h

/-- The place of an index, from a number on; -1 where the index isn't right. -/
def placeGo : Int → List Int → List Int → Int
  | a, n :: s, i :: x => if 0 ≤ i ∧ i ≤ n - 1 then placeGo (a * n + i) s x else -1
  | a, _, _ => a
def placeOf (s x : List Int) : Int := if szOf s ≥ 0 ∧ x.length = s.length then placeGo 0 s x else -1
theorem szOf_nonneg {l : List Int} (h : szOf l ≥ 0) : ¬ 3 < l.length ∧ inR l = true ∧ prod l ≤ 300 ∧ szOf l = prod l := by
  unfold szOf at h ⊢
  by_cases h1 : 3 < l.length
  · rw [if_pos h1] at h; omega
  · rw [if_neg h1] at h ⊢
    by_cases h2 : inR l = true
    · rw [if_pos h2] at h ⊢
      by_cases h3 : prod l > 300
      · rw [if_pos h3] at h; omega
      · rw [if_neg h3] at h ⊢; exact ⟨h1, h2, by omega, rfl⟩
    · rw [if_neg h2] at h; omega
def pb : Nat → Int
  | 0 => 0
  | n + 1 => 300 * pb n + 300
theorem pb_le {n : Nat} (h : n ≤ 3) : pb n ≤ 28000000 := by
  match n, h with
  | 0, _ => decide
  | 1, _ => decide
  | 2, _ => decide
  | 3, _ => decide

def arrayOk (s d : List Int) : Bool := decide ((d.length : Int) = szOf s) && d.all okN
theorem arrayOk_t {s d : List Int} (h : arrayOk s d = true) : (d.length : Int) = szOf s ∧ (∀ x ∈ d, okN x = true) ∧ d.length ≤ 300 ∧ s.length ≤ 3 ∧ szOf s ≥ 0 := by
  unfold arrayOk at h
  rw [Bool.and_eq_true, decide_eq_true_iff, List.all_eq_true] at h
  have h1 := szOf_ge s
  have h2 : szOf s ≥ 0 := by omega
  exact ⟨h.1, h.2, by omega, by have := (szOf_nonneg h2).1; omega, h2⟩

def fit (s d s' d' : List Int) : List Int × Int :=
  if arrayOk s d = true ∧ arrayOk s' d' = true then
    (if s.length = 0 then (s', 0) else if s'.length = 0 then (s, 0) else if s.length = s'.length then (if s = s' then (s, 0) else ([], 3)) else ([], 4))
  else ([], 1)
theorem fit_len (s d s' d' : List Int) (hs : s.length ≤ 1048576) (hs' : s'.length ≤ 1048576) : (fit s d s' d').1.length ≤ 1048576 := by
  unfold fit
  repeat' split
  all_goals first | exact hs | exact hs' | simp

def sign1 (s : Int) : Bool := decide (s = 43 ∨ s = 45 ∨ s = 42 ∨ s = 124 ∨ s = 126)
def sign2 (s : Int) : Bool := decide (s = 43 ∨ s = 45 ∨ s = 42 ∨ s = 37 ∨ s = 124 ∨ s = 38 ∨ s = 94 ∨ s = 61 ∨ s = 60 ∨ s = 62)
/-- A number that is right, or the code of a limit. -/
def lim (x : Int) : Int × Int := if okN x = true then (x, 0) else (0, 6)
def tru (b : Bool) : Int := if b = true then 1 else 0
def one (s x : Int) : Int × Int :=
  if sign1 s = true ∧ okN x = true then
    (if s = 45 then (-x, 0) else if s = 42 then (tru (decide (x > 0)) - tru (decide (x < 0)), 0) else if s = 124 then (if x < 0 then -x else x, 0) else if s = 126 then (if 0 ≤ x ∧ x ≤ 1 then (1 - x, 0) else (0, 2)) else (x, 0))
  else (0, 1)
def two (s a b : Int) : Int × Int :=
  if sign2 s = true ∧ okN a = true ∧ okN b = true then
    (if s = 43 then lim (a + b) else if s = 45 then lim (a - b) else if s = 42 then lim (a * b)
     else if s = 37 then (if b = 0 then (0, 2) else lim (Int.fdiv a b)) else if s = 124 then lim (if a = 0 then b else Int.fmod b a)
     else if s = 38 then lim (if b < a then b else a) else if s = 94 then lim (if a < b then b else a)
     else if s = 61 then lim (tru (a == b)) else if s = 60 then lim (tru (decide (a < b))) else lim (tru (decide (a > b))))
  else (0, 1)
theorem fdiv_le {a b : Int} (h : -1000000000000 ≤ a ∧ a ≤ 1000000000000) : -1000000000000 ≤ Int.fdiv a b ∧ Int.fdiv a b ≤ 1000000000000 := by
  have := Int.natAbs_fdiv_le_natAbs a b; omega
theorem tdiv_le {a b : Int} (h : -1000000000000 ≤ a ∧ a ≤ 1000000000000) : -1000000000000 ≤ Int.tdiv a b ∧ Int.tdiv a b ≤ 1000000000000 := by
  have := Int.natAbs_tdiv_le_natAbs a b; omega
theorem fmod_le {a b : Int} (h : -1000000000000 ≤ a ∧ a ≤ 1000000000000) (hb : a ≠ 0) : -1000000000000 ≤ Int.fmod b a ∧ Int.fmod b a ≤ 1000000000000 := by
  rcases Int.lt_or_gt_of_ne hb with h1 | h1
  · have h2 := Int.fmod_nonneg_of_pos (-b) (b := -a) (by omega)
    have h3 := Int.fmod_lt_of_pos (-b) (b := -a) (by omega)
    rw [Int.neg_fmod_neg] at h2 h3; omega
  · have h2 := Int.fmod_nonneg_of_pos b h1
    have h3 := Int.fmod_lt_of_pos b h1
    omega
/-- What floor tells: Go's quotient, one less where it doesn't divide and the signs differ. -/
theorem floor_is (a b : Int) (hb : b ≠ 0) (h : -1000000000000 ≤ a ∧ a ≤ 1000000000000) :
    (if b = 0 then none else (if (Int.tmod a b) = 0 then (some (wrap64 (Int.tdiv a b))) else (if ((decide (a < 0)) != (decide (b < 0))) = true then (some (wrap64 ((wrap64 (Int.tdiv a b)) - 1))) else (some (wrap64 (Int.tdiv a b)))))) = some (Int.fdiv a b) := by
  have ht := tdiv_le (b := b) h
  rw [if_neg hb, w64 (x := Int.tdiv a b) (by omega) (by omega), w64 (x := Int.tdiv a b - 1) (by omega) (by omega), Int.fdiv_eq_tdiv]
  by_cases h0 : Int.tmod a b = 0
  · rw [if_pos h0, if_pos (Int.dvd_iff_tmod_eq_zero.2 h0)]; simp
  · rw [if_neg h0, if_neg (fun hh => h0 (Int.dvd_iff_tmod_eq_zero.1 hh))]
    by_cases ha : a < 0
    · rw [if_neg (show ¬ 0 ≤ a by omega)]
      by_cases hb' : b < 0
      · rw [if_neg (by simp [ha, hb']), if_neg (show ¬ 0 ≤ b by omega), Int.sign_eq_neg_one_of_neg hb']; simp
      · rw [if_pos (by simp [ha, hb']), if_pos (show 0 ≤ b by omega), Int.sign_eq_one_of_pos (by omega)]
    · rw [if_pos (show 0 ≤ a by omega)]
      by_cases hb' : b < 0
      · rw [if_pos (by simp [ha, hb']), if_neg (show ¬ 0 ≤ b by omega)]
      · rw [if_neg (by simp [ha, hb']), if_pos (show 0 ≤ b by omega)]; simp
/-- A product beyond the limit, by a quotient. -/
theorem prod_lim {x y : Int} (hx : 0 < x) (hy : 0 ≤ y) : y > 1000000000000 / x ↔ x * y > 1000000000000 := by
  have h1 := Int.lt_ediv_add_one_mul_self 1000000000000 hx
  constructor
  · intro h
    have h2 : (1000000000000 / x + 1) * x ≤ y * x := Int.mul_le_mul_of_nonneg_right (by omega) (by omega)
    rw [Int.mul_comm y x] at h2; omega
  · intro h
    have h2 := Int.ediv_mul_le 1000000000000 (Int.ne_of_gt hx)
    by_cases h3 : y ≤ 1000000000000 / x
    · have h4 : y * x ≤ 1000000000000 / x * x := Int.mul_le_mul_of_nonneg_right h3 (by omega)
      rw [Int.mul_comm y x] at h4; omega
    · omega
/-- The size of a number. -/
def ab (x : Int) : Int := if x < 0 then -x else x
theorem ab_nonneg (x : Int) : 0 ≤ ab x := by unfold ab; split <;> omega
theorem ab_mul (x y : Int) : ab (x * y) = ab x * ab y := by
  have h : ∀ z : Int, ab z = (z.natAbs : Int) := fun z => by unfold ab; split <;> omega
  rw [h, h, h, Int.natAbs_mul, Int.natCast_mul]
theorem okN_ab (x : Int) : okN x = decide (ab x ≤ 1000000000000) := by
  unfold okN ab; rw [Bool.eq_iff_iff, decide_eq_true_iff, decide_eq_true_iff]; split <;> omega
theorem okN_prod {x y : Int} (hx : x ≠ 0) : okN (x * y) = !decide (ab y > 1000000000000 / ab x) := by
  have h0 : 0 < ab x := by unfold ab; split <;> omega
  have h1 := prod_lim h0 (ab_nonneg y)
  rw [okN_ab, ab_mul, Bool.eq_iff_iff, decide_eq_true_iff, Bool.not_eq_true', decide_eq_false_iff_not, h1]; omega

/-- A sign on each number of a row: the numbers, or the first code. -/
def mapE (f : Int → Int × Int) : List Int → List Int × Int
  | [] => ([], 0)
  | x :: l => if (f x).2 = 0 then (if (mapE f l).2 = 0 then ((f x).1 :: (mapE f l).1, 0) else ([], (mapE f l).2)) else ([], (f x).2)
theorem mapE_length (f : Int → Int × Int) : ∀ (l : List Int), (mapE f l).1.length ≤ l.length ∧ ((mapE f l).2 = 0 → (mapE f l).1.length = l.length)
  | [] => by simp [mapE]
  | x :: l => by
    have ih := mapE_length f l
    unfold mapE
    split
    · split
      · rename_i h1 h2; have := ih.2 h2; simp [this]
      · rename_i h1 h2; simp; exact fun h => absurd h h2
    · rename_i h; simp; exact fun h' => absurd h' h
theorem mapE_get (f : Int → Int × Int) : ∀ (l : List Int) (i : Nat) (hi : i < l.length) (h : (mapE f l).2 = 0), (f l[i]).2 = 0 ∧ (mapE f l).1[i]'(by rw [(mapE_length f l).2 h]; exact hi) = (f l[i]).1
  | [], i, hi, _ => by simp at hi
  | x :: l, i, hi, h => by
    by_cases h1 : (f x).2 = 0
    · by_cases h2 : (mapE f l).2 = 0
      · have e : mapE f (x :: l) = ((f x).1 :: (mapE f l).1, 0) := by rw [mapE, if_pos h1, if_pos h2]
        cases i with
        | zero => exact ⟨h1, by simp only [e, List.getElem_cons_zero]⟩
        | succ i =>
          have ih := mapE_get f l i (by simpa using hi) h2
          refine ⟨by simpa using ih.1, ?_⟩
          simp only [e, List.getElem_cons_succ]; exact ih.2
      · rw [mapE, if_pos h1, if_neg h2] at h; exact absurd h h2
    · rw [mapE, if_neg h1] at h; exact absurd h h1
theorem set_take_succ (o : List Int) (i : Nat) (v : Int) (h : i < o.length) : (o.set i v).take (i + 1) = o.take i ++ [v] := by
  rw [List.take_succ_eq_append_getElem (l := o.set i v) (i := i) (by rw [List.length_set]; exact h), List.getElem_set_self, List.take_set_of_le (Nat.le_refl i)]

def mapN (g : Nat → Int × Int) : Nat → Nat → List Int × Int
  | 0, _ => ([], 0)
  | n + 1, i => if (g i).2 = 0 then (if (mapN g n (i + 1)).2 = 0 then ((g i).1 :: (mapN g n (i + 1)).1, 0) else ([], (mapN g n (i + 1)).2)) else ([], (g i).2)
theorem mapN_length (g : Nat → Int × Int) : ∀ (n i : Nat), (mapN g n i).1.length ≤ n
  | 0, _ => by simp [mapN]
  | n + 1, i => by
    have ih := mapN_length g n (i + 1)
    unfold mapN
    split
    · split
      · simp; exact ih
      · simp
    · simp
/-- The number of an array at a place; its only one of rank nought. -/
def atA (s d : List Int) (i : Nat) : Int := if s.length = 0 then rd d 0 else rd d (i : Int)
def eachTwo (s : Int) (a b c d : List Int) : List Int × List Int × Int :=
  if (arrayOk a b = true ∧ arrayOk c d = true) ∧ sign2 s = true then
    (if (fit a b c d).2 = 0 then
      (if (mapN (fun i => two s (atA a b i) (atA c d i)) (szOf (fit a b c d).1).toNat 0).2 = 0 then ((fit a b c d).1, (mapN (fun i => two s (atA a b i) (atA c d i)) (szOf (fit a b c d).1).toNat 0).1, 0)
      else ([], [], (mapN (fun i => two s (atA a b i) (atA c d i)) (szOf (fit a b c d).1).toNat 0).2))
    else ([], [], (fit a b c d).2))
  else ([], [], 1)
theorem eachTwo_len (s : Int) (a b c d : List Int) (ha : a.length ≤ 1048576) (hc : c.length ≤ 1048576) : (eachTwo s a b c d).1.length ≤ 1048576 ∧ (eachTwo s a b c d).2.1.length ≤ 1048576 := by
  have h1 := fit_len a b c d ha hc
  have h2 := mapN_length (fun i => two s (atA a b i) (atA c d i)) (szOf (fit a b c d).1).toNat 0
  have h3 := szOf_ge (fit a b c d).1
  unfold eachTwo
  repeat' split
  all_goals exact ⟨by first | exact h1 | simp, by first | (dsimp only; omega) | simp⟩
theorem fit_at {a b c d : List Int} (h1 : arrayOk a b = true) (h2 : arrayOk c d = true) (hf : (fit a b c d).2 = 0) : ∃ N : Nat, szOf (fit a b c d).1 = (N : Int) ∧ N ≤ 300 ∧ ∀ i, i < N → ((a.length = 0 → 0 < b.length) ∧ (a.length ≠ 0 → i < b.length)) ∧ ((c.length = 0 → 0 < d.length) ∧ (c.length ≠ 0 → i < d.length)) := by
  obtain ⟨a1, a2, a3, a4, a5⟩ := arrayOk_t h1
  obtain ⟨c1, c2, c3, c4, c5⟩ := arrayOk_t h2
  have z0 : szOf [] = 1 := by decide
  have e0 : ∀ l : List Int, l.length = 0 → szOf l = 1 := fun l hl => by rw [List.length_eq_zero_iff.1 hl]; exact z0
  unfold fit at hf ⊢
  rw [if_pos (And.intro h1 h2)] at hf ⊢
  by_cases ha : a.length = 0
  · have := e0 a ha
    rw [if_pos ha]
    refine ⟨(szOf c).toNat, by dsimp only; omega, by omega, fun i hi => ⟨⟨fun _ => by omega, fun hh => absurd ha hh⟩, ⟨fun hh => ?_, fun _ => by omega⟩⟩⟩
    have := e0 c hh; omega
  · rw [if_neg ha] at hf ⊢
    by_cases hc : c.length = 0
    · have := e0 c hc
      rw [if_pos hc]
      exact ⟨(szOf a).toNat, by dsimp only; omega, by omega, fun i hi => ⟨⟨fun hh => absurd hh ha, fun _ => by omega⟩, ⟨fun _ => by omega, fun hh => absurd hc hh⟩⟩⟩
    · rw [if_neg hc] at hf ⊢
      by_cases hl : a.length = c.length
      · rw [if_pos hl] at hf ⊢
        by_cases he : a = c
        · rw [if_pos he]
          have e3 : szOf a = szOf c := by rw [he]
          exact ⟨(szOf a).toNat, by dsimp only; omega, by omega, fun i hi => ⟨⟨fun hh => absurd hh ha, fun _ => by omega⟩, ⟨fun hh => absurd hh hc, fun _ => by omega⟩⟩⟩
        · rw [if_neg he] at hf; simp at hf
      · rw [if_neg hl] at hf; simp at hf

theorem impl_within_eq (a b c : Int) : impl_within.f a b c = some (decide (b ≤ a ∧ a ≤ c)) := by
  unfold impl_within.f
  by_cases h : a ≥ b
  · rw [if_pos h]; congr 1; rw [Bool.eq_iff_iff, decide_eq_true_iff, decide_eq_true_iff]; omega
  · rw [if_neg h]; congr 1; symm; rw [decide_eq_false_iff_not]; omega

theorem impl_SizeOf_l0 (l : List Int) (hl : ¬ 3 < l.length) (d : Nat) : ∀ (i : Nat), i + d = l.length → inR (l.take i) = true → Ev (fun k => impl_SizeOf.l0 k (prod (l.take i)) l (l.length : Int) (i : Int)) (if inR l = true then (if prod l > 300 then -1 else prod l) else -1) := by
  induction d with
  | zero =>
    intro i hi hr
    have e : l.take i = l := List.take_of_length_le (by omega)
    rw [e] at hr ⊢
    rw [if_pos hr]
    refine Ev.step (f := fun _ => some (if prod l > 300 then -1 else prod l)) (fun k => ?_) (Ev.now _)
    simp only [impl_SizeOf.l0]; rw [if_neg (by omega)]
    by_cases h : prod l > 300
    · rw [if_pos h, if_pos h]
    · rw [if_neg h, if_neg h]
  | succ d ih =>
    intro i hi hr
    have hlt : i < l.length := by omega
    by_cases hx : 0 ≤ l[i] ∧ l[i] ≤ 300
    · have hr' := (inR_take_succ l i hlt).2 ⟨hr, hx⟩
      refine Ev.step (f := fun k => impl_SizeOf.l0 k (prod (l.take (i + 1))) l (l.length : Int) ((i + 1 : Nat) : Int)) (fun k => ?_) (ih (i + 1) (by omega) hr')
      simp only [impl_SizeOf.l0]
      rw [if_pos (by omega), if_pos (by omega), if_pos (by omega), impl_within_eq, rdn l i hlt, decide_eq_true hx]
      simp only [Option.bind_some, if_true]
      have hp := prod_take_le l (i + 1) hl hr'
      rw [w64s i (by omega), ← prod_take_succ l i hlt, w64 (by omega) (by omega)]
    · rw [if_neg (by rw [inR_not i hlt hx]; simp)]
      refine Ev.step (f := fun _ => some (-1)) (fun k => ?_) (Ev.now _)
      simp only [impl_SizeOf.l0]
      rw [if_pos (by omega), if_pos (by omega), if_pos (by omega), impl_within_eq, rdn l i hlt, decide_eq_false hx]
      rfl
theorem impl_SizeOf_ev (l : List Int) : Ev (fun k => impl_SizeOf.f k l) (szOf l) := by
  unfold impl_SizeOf.f szOf
  by_cases h : 3 < l.length
  · rw [if_pos h]; exact evPos (by omega) (Ev.now _)
  · rw [if_neg h]
    refine evNeg (by omega) ?_
    have := impl_SizeOf_l0 l h l.length 0 (by omega) (by simp [inR])
    simpa only [List.take_zero, prod, Int.ofNat_zero, Int.natCast_zero] using this

theorem impl_NumOk_eq (a : Int) : impl_NumOk.f a = some (okN a) := by
  unfold impl_NumOk.f; rw [impl_within_eq]; rfl

def p_ArrayOk1 (x : Int) : Bool := !okN x
theorem lit_ArrayOk1_eq (x : Int) : impl_ArrayOk_lit1.f x = some (p_ArrayOk1 x) := by
  unfold impl_ArrayOk_lit1.f; rw [impl_NumOk_eq]; rfl

theorem slices_IndexFunc_ArrayOk1_l0 (l : List Int) (hl : l.length ≤ 1048576) (d : Nat) : ∀ (i : Nat), i + d = l.length → (l.take i).all (fun x => !p_ArrayOk1 x) = true → ∃ r, Ev (fun k => slices_IndexFunc_ArrayOk1.l0 k l (l.length : Int) (i : Int)) r ∧ decide (r ≥ 0) = l.any p_ArrayOk1 := by
  induction d with
  | zero =>
    intro i hi ht
    refine ⟨-1, Ev.step (f := fun _ => some (-1)) (fun k => ?_) (Ev.now _), ?_⟩
    · simp only [slices_IndexFunc_ArrayOk1.l0]; rw [if_neg (by omega)]
    · have e : l.take i = l := List.take_of_length_le (by omega)
      rw [e] at ht
      symm; rw [show decide ((-1 : Int) ≥ 0) = false by decide, List.any_eq_false]
      intro x hx
      have := List.all_eq_true.1 ht x hx
      simpa using this
  | succ d ih =>
    intro i hi ht
    have hlt : i < l.length := by omega
    by_cases hx : p_ArrayOk1 l[i] = true
    · refine ⟨(i : Int), Ev.step (f := fun _ => some (i : Int)) (fun k => ?_) (Ev.now _), ?_⟩
      · simp only [slices_IndexFunc_ArrayOk1.l0]
        rw [if_pos (by omega), if_pos (by omega), if_pos (by omega), lit_ArrayOk1_eq, rdn l i hlt]; simp only [Option.bind_some]; rw [if_pos hx]
      · rw [decide_eq_true (by omega)]; symm; rw [List.any_eq_true]; exact ⟨_, List.getElem_mem hlt, hx⟩
    · obtain ⟨r, hr, h2⟩ := ih (i + 1) (by omega) (by rw [List.take_succ_eq_append_getElem hlt, List.all_append, ht]; simp [hx])
      refine ⟨r, Ev.step (f := fun k => slices_IndexFunc_ArrayOk1.l0 k l (l.length : Int) ((i + 1 : Nat) : Int)) (fun k => ?_) hr, h2⟩
      simp only [slices_IndexFunc_ArrayOk1.l0]
      rw [if_pos (by omega), if_pos (by omega), if_pos (by omega), lit_ArrayOk1_eq, rdn l i hlt]; simp only [Option.bind_some]; rw [if_neg hx, w64s i (by omega)]
theorem slices_ContainsFunc_ArrayOk1_ev (l : List Int) (hl : l.length ≤ 1048576) : Ev (fun k => slices_ContainsFunc_ArrayOk1.f k l) (l.any p_ArrayOk1) := by
  unfold slices_ContainsFunc_ArrayOk1.f slices_IndexFunc_ArrayOk1.f
  obtain ⟨r, hr, h⟩ := slices_IndexFunc_ArrayOk1_l0 l hl l.length 0 (by omega) (by simp)
  exact Ev.bind hr (evSome h)

theorem all_okN (d : List Int) : (!d.any p_ArrayOk1) = d.all okN := by
  rw [List.not_any_eq_all_not]; congr 1; funext x; simp [p_ArrayOk1]
theorem impl_ArrayOk_ev (s d : List Int) (hd : d.length ≤ 1048576) : Ev (fun k => impl_ArrayOk.f k s d) (arrayOk s d) := by
  unfold impl_ArrayOk.f arrayOk
  refine Ev.bind (impl_SizeOf_ev s) ?_
  by_cases h : (d.length : Int) = szOf s
  · exact evPos h (Ev.bind (slices_ContainsFunc_ArrayOk1_ev d hd) (evSome (by rw [all_okN, decide_eq_true h]; rfl)))
  · exact evNeg h (evSome (by rw [decide_eq_false h]; rfl))

theorem slices_Equal_l0 (l m : List Int) (hl : l.length ≤ 35184372088832) (hm : l.length = m.length) (d : Nat) : ∀ (i : Nat), i + d = l.length → Ev (fun k => slices_Equal_int_int.l0 k l m (l.length : Int) (i : Int)) (decide (l.drop i = m.drop i)) := by
  induction d with
  | zero =>
    intro i hi
    refine Ev.step (f := fun _ => some (decide (l.drop i = m.drop i))) (fun k => ?_) (Ev.now _)
    simp only [slices_Equal_int_int.l0]
    rw [if_neg (by omega), List.drop_of_length_le (by omega), List.drop_of_length_le (by omega)]; simp
  | succ d ih =>
    intro i hi
    have hlt : i < l.length := by omega
    have hlt' : i < m.length := by omega
    have e1 := List.drop_eq_getElem_cons hlt
    have e2 := List.drop_eq_getElem_cons hlt'
    by_cases hx : l[i] = m[i]
    · refine Ev.step (f := fun k => slices_Equal_int_int.l0 k l m (l.length : Int) ((i + 1 : Nat) : Int)) (fun k => ?_) (evEq (ih (i + 1) (by omega)) ?_)
      · simp only [slices_Equal_int_int.l0]
        rw [if_pos (by omega), if_pos (by omega), if_pos (by omega), if_pos (by omega), rdn l i hlt, rdn m i hlt', if_pos hx, w64s i (by omega)]
      · rw [e1, e2, hx]; simp only [List.cons.injEq, true_and]
    · refine Ev.step (f := fun _ => some false) (fun k => ?_) (evSome ?_)
      · simp only [slices_Equal_int_int.l0]
        rw [if_pos (by omega), if_pos (by omega), if_pos (by omega), if_pos (by omega), rdn l i hlt, rdn m i hlt', if_neg hx]
      · rw [e1, e2]; symm; rw [decide_eq_false_iff_not]; intro h; exact hx (List.cons.inj h).1
theorem slices_Equal_ev (l m : List Int) (hl : l.length ≤ 35184372088832) : Ev (fun k => slices_Equal_int_int.f k l m) (decide (l = m)) := by
  unfold slices_Equal_int_int.f
  by_cases h : l.length = m.length
  · refine evPos (by omega) ?_
    exact slices_Equal_l0 l m hl h l.length 0 (by omega)
  · refine evNeg (by omega) (evSome ?_)
    symm; rw [decide_eq_false_iff_not]; intro e; exact h (by rw [e])

theorem impl_Fit_j0 (s d s' d' : List Int) (b : Bool) (hs : s.length ≤ 1048576) (hs' : s'.length ≤ 1048576) : Ev (fun k => impl_Fit.j0 k s b s d s' d') (if b = true then ([], 1) else (if s.length = 0 then (s', 0) else if s'.length = 0 then (s, 0) else if s.length = s'.length then (if s = s' then (s, 0) else ([], 3)) else ([], 4))) := by
  refine Ev.step (fun k => by rw [impl_Fit.j0]) ?_
  cases b with
  | true => exact evPos rfl (Ev.now _)
  | false =>
    simp only [Bool.false_eq_true, ↓reduceIte]
    by_cases h1 : s.length = 0
    · rw [if_pos h1]; exact evPos (by omega) (evPos (by rw [List.length_nil]; omega) (Ev.now _))
    rw [if_neg h1]; refine evNeg (by omega) ?_
    by_cases h2 : s'.length = 0
    · rw [if_pos h2]; exact evPos (by omega) (Ev.now _)
    rw [if_neg h2]; refine evNeg (by omega) ?_
    by_cases h3 : s.length = s'.length
    · rw [if_pos h3]; refine evPos (by omega) (Ev.bind (slices_Equal_ev s s' (by omega)) ?_)
      by_cases h4 : s = s'
      · rw [if_pos h4]; exact evPos (decide_eq_true h4) (Ev.now _)
      · rw [if_neg h4]; exact evNeg (by simpa using h4) (Ev.now _)
    · rw [if_neg h3]; exact evNeg (by omega) (Ev.now _)
theorem impl_Fit_ev (s d s' d' : List Int) (hs : s.length ≤ 1048576) (hd : d.length ≤ 1048576) (hs' : s'.length ≤ 1048576) (hd' : d'.length ≤ 1048576) : Ev (fun k => impl_Fit.f k s d s' d') (fit s d s' d') := by
  unfold impl_Fit.f fit
  simp only [Option.bind_some, List.length_nil, List.nil_append, Nat.zero_add]
  refine evPos (by omega) (Ev.bind (impl_ArrayOk_ev s d hd) ?_)
  by_cases h1 : arrayOk s d = true
  · refine evPos h1 (Ev.bind (impl_ArrayOk_ev s' d' hd') ?_)
    refine evEq (impl_Fit_j0 s d s' d' _ hs hs') ?_
    by_cases h2 : arrayOk s' d' = true
    · rw [if_neg (by rw [h2]; simp), if_pos (And.intro h1 h2)]
    · rw [if_pos (by simp [h2]), if_neg (fun h : _ ∧ _ => h2 h.2)]
  · refine evNeg h1 (evEq (impl_Fit_j0 s d s' d' true hs hs') ?_)
    rw [if_pos rfl, if_neg (fun h : _ ∧ _ => h1 h.1)]

theorem hs_step (b : ByteArray) (s : Int) (i : Nat) (v : Int) (r : Bool) (hi : i < b.size) (hn : i < 100) (hv : bt b i = v) (e : Ev (fun k => impl_hasSign.l0 k b s ((i + 1 : Nat) : Int)) r) : Ev (fun k => impl_hasSign.l0 k b s (i : Int)) (decide (s = v) || r) := by
  have hr := bt_range b i
  by_cases h : v = s
  · refine Ev.step (f := fun _ => some true) (fun k => ?_) (evSome (by simp [h]))
    simp only [impl_hasSign.l0]
    rw [if_pos (by omega), if_pos (by omega), if_pos (by rw [w64 (by omega) (by omega), hv, h])]
  · refine Ev.step (f := fun k => impl_hasSign.l0 k b s ((i + 1 : Nat) : Int)) (fun k => ?_) (evEq e (by rw [decide_eq_false (fun hh => h hh.symm), Bool.false_or]))
    simp only [impl_hasSign.l0]
    rw [if_pos (by omega), if_pos (by omega), if_neg (by rw [w64 (by omega) (by omega), hv]; exact h), w64s i (by omega)]
theorem hs_end (b : ByteArray) (s : Int) (i : Nat) (hi : b.size = i) : Ev (fun k => impl_hasSign.l0 k b s (i : Int)) false := by
  refine Ev.step (f := fun _ => some false) (fun k => ?_) (Ev.now _)
  simp only [impl_hasSign.l0]
  rw [if_neg (by omega)]

theorem impl_twoSign_ev (s : Int) : Ev (fun k => impl_twoSign.f k s) (sign2 s) := by
  unfold impl_twoSign.f impl_hasSign.f
  refine Ev.bind (a := sign2 s) ?_ (Ev.now _)
  refine evEq (hs_step _ s 0 43 _ (by decide) (by decide) (by decide) (hs_step _ s 1 45 _ (by decide) (by decide) (by decide) (hs_step _ s 2 42 _ (by decide) (by decide) (by decide) (hs_step _ s 3 37 _ (by decide) (by decide) (by decide) (hs_step _ s 4 124 _ (by decide) (by decide) (by decide) (hs_step _ s 5 38 _ (by decide) (by decide) (by decide) (hs_step _ s 6 94 _ (by decide) (by decide) (by decide) (hs_step _ s 7 61 _ (by decide) (by decide) (by decide) (hs_step _ s 8 60 _ (by decide) (by decide) (by decide) (hs_step _ s 9 62 _ (by decide) (by decide) (by decide) (hs_end _ s 10 (by decide)))))))))))) ?_
  unfold sign2; rw [Bool.eq_iff_iff]; simp

theorem impl_truth_eq (b : Bool) : impl_truth.f b = some (tru b) := by cases b <;> rfl

theorem impl_floor_eq (a b : Int) (hb : b ≠ 0) (h : -1000000000000 ≤ a ∧ a ≤ 1000000000000) : impl_floor.f a b = some (Int.fdiv a b) := floor_is a b hb h
theorem impl_product_eq (a b : Int) (ha : -1000000000000 ≤ a ∧ a ≤ 1000000000000) (hb : -1000000000000 ≤ b ∧ b ≤ 1000000000000) : ∃ y, impl_product.f a b = some (y, okN (a * b)) ∧ (okN (a * b) = true → y = a * b) := by
  unfold impl_product.f
  by_cases h0 : a = 0
  · subst h0
    rw [if_pos rfl]
    exact ⟨0, by rw [Int.zero_mul, w64 (by decide) (by decide)]; rfl, fun _ => by rw [Int.zero_mul]⟩
  · have e1 : mx a (wrap64 (-a)) = ab a := by rw [w64 (by omega) (by omega)]; unfold mx ab; split <;> split <;> omega
    have e2 : mx b (wrap64 (-b)) = ab b := by rw [w64 (by omega) (by omega)]; unfold mx ab; split <;> split <;> omega
    have h1 : 0 < ab a := by unfold ab; split <;> omega
    have h2 : 0 ≤ 1000000000000 / ab a := Int.ediv_nonneg (by decide) (by omega)
    have h3 : 1000000000000 / ab a ≤ 1000000000000 := Int.ediv_le_self _ (by decide)
    rw [if_neg h0, e1, e2, if_neg (by omega), Int.tdiv_eq_ediv_of_nonneg (by decide), w64 (x := 1000000000000 / ab a) (by omega) (by omega), okN_prod h0]
    by_cases h4 : ab b > 1000000000000 / ab a
    · rw [if_pos h4]; exact ⟨0, by simp [h4], fun h => by simp [h4] at h⟩
    · rw [if_neg h4]
      have h5 : okN (a * b) = true := by rw [okN_prod h0]; simp [h4]
      have h6 := okN_t h5
      exact ⟨a * b, by rw [w64 (by omega) (by omega)]; simp [h4], fun _ => rfl⟩
theorem impl_lim (x : Int) : (impl_NumOk.f x).bind (fun t => if t = true then some (x, (0 : Int)) else some (0, 6)) = some (lim x) := by
  rw [impl_NumOk_eq]; simp only [Option.bind_some, lim]; split <;> rfl
theorem impl_Two_ev (s a b : Int) : Ev (fun k => impl_Two.f k s a b) (two s a b) := by
  unfold impl_Two.f
  refine Ev.bind (impl_twoSign_ev s) ?_
  have hbad : ¬ (sign2 s = true ∧ okN a = true ∧ okN b = true) → Ev (fun k => impl_Two.j0 k s a b true) (two s a b) := by
    intro h
    unfold two; rw [if_neg h]
    refine Ev.step (f := fun _ => some (0, 1)) (fun k => ?_) (Ev.now _)
    rw [impl_Two.j0]; exact if_pos rfl
  by_cases hs : sign2 s = true
  · refine evPos hs (evBind0 (impl_NumOk_eq a) ?_)
    by_cases ha : okN a = true
    · refine evPos ha (evBind0 (impl_NumOk_eq b) ?_)
      by_cases hb : okN b = true
      · unfold two
        rw [if_pos ⟨hs, ha, hb⟩, hb]
        have ha' := okN_t ha
        have hb' := okN_t hb
        refine Ev.step (f := fun _ => some _) (fun k => ?_) (Ev.now _)
        obtain ⟨y, hy, hy2⟩ := impl_product_eq a b ha' hb'
        simp only [impl_Two.j0]
        rw [if_neg (by simp), w64 (x := a + b) (by omega) (by omega), w64 (x := a - b) (by omega) (by omega)]
        rw [hy]
        by_cases h : s = 43
        · simp only [if_pos h]; exact impl_lim _
        · simp only [if_neg h]; clear h
          by_cases h : s = 45
          · simp only [if_pos h]; exact impl_lim _
          · simp only [if_neg h]; clear h
            by_cases h : s = 42
            · simp only [if_pos h, Option.bind_some]
              by_cases h2 : okN (a * b) = true
              · rw [if_pos h2, hy2 h2]; exact impl_lim _
              · rw [if_neg h2, lim, if_neg h2]
            · simp only [if_neg h]; clear h
              by_cases h : s = 37
              · simp only [if_pos h]
                by_cases h2 : b = 0
                · rw [if_pos h2, if_pos h2]
                · rw [if_neg h2, if_neg h2, impl_floor_eq a b h2 ha']; exact impl_lim _
              · simp only [if_neg h]; clear h
                by_cases h : s = 124
                · simp only [if_pos h]
                  by_cases h2 : a = 0
                  · rw [if_pos h2, if_pos h2]; exact impl_lim _
                  · rw [if_neg h2, if_neg h2, impl_floor_eq b a h2 hb']
                    have h3 := fmod_le (b := b) ha' h2
                    have h4 := Int.fmod_def b a
                    rw [Option.bind_some, w64 (x := a * Int.fdiv b a) (by omega) (by omega), ← h4, w64 (by omega) (by omega)]
                    exact impl_lim _
                · simp only [if_neg h]; clear h
                  by_cases h : s = 38
                  · simp only [if_pos h]; exact impl_lim _
                  · simp only [if_neg h]; clear h
                    by_cases h : s = 94
                    · simp only [if_pos h]; exact impl_lim _
                    · simp only [if_neg h]; clear h
                      by_cases h : s = 61
                      · simp only [if_pos h, impl_truth_eq, Option.bind_some]; exact impl_lim _
                      · simp only [if_neg h]; clear h
                        by_cases h : s = 60
                        · simp only [if_pos h, impl_truth_eq, Option.bind_some]; exact impl_lim _
                        · simp only [if_neg h, impl_truth_eq, Option.bind_some]; exact impl_lim _
      · rw [Bool.eq_false_iff.2 hb]; exact hbad (fun h => hb h.2.2)
    · exact evNeg ha (hbad (fun h => ha h.2.1))
  · exact evNeg hs (hbad (fun h => hs h.1))

theorem impl_at_eq (s d : List Int) (i : Nat) (h0 : s.length = 0 → 0 < d.length) (h1 : s.length ≠ 0 → i < d.length) : impl_at.f s d (i : Int) = some (atA s d i) := by
  unfold impl_at.f atA
  by_cases h : s.length = 0
  · rw [if_pos (by omega), if_pos (by have := h0 h; omega), if_pos h]
  · rw [if_neg (by omega), if_pos (by omega), if_pos (by have := h1 h; omega), if_neg h]
theorem impl_EachTwo_l0 (s : Int) (a b c d sh : List Int) (N : Nat) (hz : szOf sh = (N : Int)) (h3 : N ≤ 300) (hi : ∀ i, i < N → ((a.length = 0 → 0 < b.length) ∧ (a.length ≠ 0 → i < b.length)) ∧ ((c.length = 0 → 0 < d.length) ∧ (c.length ≠ 0 → i < d.length))) (n : Nat) : ∀ (i : Nat) (o : List Int), i + n = N → o.length = i → Ev (fun k => impl_EachTwo.l0 k s sh (i : Int) a b c d sh o) (if (mapN (fun i => two s (atA a b i) (atA c d i)) n i).2 = 0 then (sh, o ++ (mapN (fun i => two s (atA a b i) (atA c d i)) n i).1, 0) else ([], [], (mapN (fun i => two s (atA a b i) (atA c d i)) n i).2)) := by
  induction n with
  | zero =>
    intro i o h1 ho
    refine Ev.step (fun k => by rw [impl_EachTwo.l0]) ?_
    refine Ev.bind (impl_SizeOf_ev sh) (evNeg (by omega) (evSome ?_))
    simp [mapN]
  | succ n ih =>
    intro i o h1 ho
    have hii := hi i (by omega)
    refine Ev.step (fun k => by rw [impl_EachTwo.l0]) ?_
    refine Ev.bind (impl_SizeOf_ev sh) (evPos (by omega) ?_)
    refine evBind0 (impl_at_eq a b i hii.1.1 hii.1.2) (evBind0 (impl_at_eq c d i hii.2.1 hii.2.2) (Ev.bind (impl_Two_ev s (atA a b i) (atA c d i)) ?_))
    rw [w64s i (by omega)]
    have ih' := ih (i + 1) (o ++ [(two s (atA a b i) (atA c d i)).1]) (by omega) (by simp [ho])
    by_cases h : (two s (atA a b i) (atA c d i)).2 = 0
    · refine evPos h (evPos (by omega) (evEq ih' ?_))
      rw [mapN]
      simp only [if_pos h]
      by_cases h2 : (mapN (fun i => two s (atA a b i) (atA c d i)) n (i + 1)).2 = 0
      · simp only [if_pos h2, List.append_assoc, List.singleton_append]; rfl
      · simp only [if_neg h2]
    · refine evNeg h (evSome ?_)
      rw [mapN]
      simp only [if_neg h]
theorem impl_EachTwo_ev (s : Int) (a b c d : List Int) (ha : a.length ≤ 1048576) (hb : b.length ≤ 1048576) (hc : c.length ≤ 1048576) (hd : d.length ≤ 1048576) : Ev (fun k => impl_EachTwo.f k s a b c d) (eachTwo s a b c d) := by
  unfold impl_EachTwo.f eachTwo
  refine Ev.bind (impl_Fit_ev a b c d ha hb hc hd) ?_
  have hbad : ∀ x y, Ev (fun k => impl_EachTwo.j0 k s x y true a b c d) ([], [], 1) := fun x y => Ev.step (fun k => by rw [impl_EachTwo.j0]) (evPos rfl (Ev.now _))
  by_cases h : arrayOk a b = true ∧ arrayOk c d = true
  · have h1 : ¬ (fit a b c d).2 = 1 := by
      unfold fit
      rw [if_pos h]
      repeat' split
      all_goals simp
    refine evNeg h1 (Ev.bind (impl_twoSign_ev s) ?_)
    by_cases h2 : sign2 s = true
    · rw [h2]
      refine evEq ?_ (if_pos (And.intro h rfl)).symm
      refine Ev.step (fun k => by rw [impl_EachTwo.j0]) (evNeg (by simp) ?_)
      by_cases h3 : (fit a b c d).2 = 0
      · obtain ⟨N, hz, hN, hi⟩ := fit_at h.1 h.2 h3
        refine evEq (evPos h3 ?_) (if_pos h3).symm
        have e : (szOf (fit a b c d).1).toNat = N := by omega
        rw [e]
        exact evEq (impl_EachTwo_l0 s a b c d (fit a b c d).1 N hz hN hi N 0 [] (by omega) rfl) (by rw [List.nil_append])
      · exact evEq (evNeg h3 (Ev.now _)) (if_neg h3).symm
    · rw [Bool.eq_false_iff.2 h2]
      exact evEq (hbad _ _) (if_neg (fun hh : _ ∧ _ => absurd hh.2 (by simp))).symm
  · have h1 : (fit a b c d).2 = 1 := by unfold fit; rw [if_neg h]
    exact evEq (evPos h1 (hbad _ _)) (if_neg (fun hh : _ ∧ _ => h hh.1)).symm

theorem spec_l1In_eq (a b c : Int) : spec_l1In.f a b c = some (decide (b ≤ a ∧ a ≤ c)) := by
  unfold spec_l1In.f
  by_cases h : a ≥ b
  · rw [if_pos h]; congr 1; rw [Bool.eq_iff_iff, decide_eq_true_iff, decide_eq_true_iff]; omega
  · rw [if_neg h]; congr 1; symm; rw [decide_eq_false_iff_not]; omega

theorem spec_SizeOf_l1 (l : List Int) (hl : ¬ 3 < l.length) (z : Bool) (hr : inR l = true) (hz : z = true → prod l = 0) (d : Nat) : ∀ (i : Nat), i + d = l.length → Ev (fun k => spec_SizeOf.l1 k l z (prod (l.take i)) (i : Int)) (if prod l > 300 then -1 else prod l) := by
  induction d with
  | zero =>
    intro i hi
    have e : l.take i = l := List.take_of_length_le (by omega)
    rw [e]
    refine Ev.step (f := fun _ => some (if prod l > 300 then -1 else prod l)) (fun k => ?_) (Ev.now _)
    simp only [spec_SizeOf.l1]; rw [if_neg (by omega)]
    by_cases h : prod l > 300
    · rw [if_pos h, if_pos h]
      rw [if_neg (by intro hh; have := hz hh; omega)]
    · rw [if_neg h, if_neg h]
  | succ d ih =>
    intro i hi
    have hlt : i < l.length := by omega
    have hr' := inR_take (i + 1) hr
    refine Ev.step (f := fun k => spec_SizeOf.l1 k l z (prod (l.take (i + 1))) ((i + 1 : Nat) : Int)) (fun k => ?_) (ih (i + 1) (by omega))
    simp only [spec_SizeOf.l1]
    have hp := prod_take_le l (i + 1) hl hr'
    rw [if_pos (by omega), if_pos (by omega), rdn l i hlt, w64s i (by omega), ← prod_take_succ l i hlt, w64 (by omega) (by omega)]
theorem prod_zero (l : List Int) (h : l.any (· == 0) = true) : prod l = 0 := by
  induction l with
  | nil => simp at h
  | cons a l ih =>
    rw [List.any_cons, Bool.or_eq_true] at h
    rcases h with h | h
    · have : a = 0 := by simpa using h
      rw [prod, this, Int.zero_mul]
    · rw [prod, ih h, Int.mul_zero]
theorem spec_SizeOf_l0 (l : List Int) (hl : ¬ 3 < l.length) (d : Nat) : ∀ (i : Nat) (z : Bool), i + d = l.length → inR (l.take i) = true → z = (l.take i).any (· == 0) → Ev (fun k => spec_SizeOf.l0 k l z (i : Int)) (if inR l = true then (if prod l > 300 then -1 else prod l) else -1) := by
  induction d with
  | zero =>
    intro i z hi hr hz
    have e : l.take i = l := List.take_of_length_le (by omega)
    rw [e] at hr hz
    rw [if_pos hr]
    refine Ev.step (f := fun k => spec_SizeOf.l1 k l z 1 0) (fun k => ?_) ?_
    · simp only [spec_SizeOf.l0]; rw [if_neg (by omega)]
    · exact spec_SizeOf_l1 l hl z hr (fun h => prod_zero l (by rw [← hz]; exact h)) l.length 0 (by omega)
  | succ d ih =>
    intro i z hi hr hz
    have hlt : i < l.length := by omega
    by_cases hx : 0 ≤ l[i] ∧ l[i] ≤ 300
    · have hr' := (inR_take_succ l i hlt).2 ⟨hr, hx⟩
      refine Ev.step (f := fun k => spec_SizeOf.l0 k l ((l.take (i + 1)).any (· == 0)) ((i + 1 : Nat) : Int)) (fun k => ?_) (ih (i + 1) _ (by omega) hr' rfl)
      simp only [spec_SizeOf.l0]
      rw [if_pos (by omega), if_pos (by omega), spec_l1In_eq, rdn l i hlt, decide_eq_true hx]
      simp only [Option.bind_some, if_true]
      rw [w64s i (by omega), List.take_succ_eq_append_getElem hlt, List.any_append, ← hz]
      cases z with
      | true => simp
      | false => simp
    · rw [if_neg (by rw [inR_not i hlt hx]; simp)]
      refine Ev.step (f := fun _ => some (-1)) (fun k => ?_) (Ev.now _)
      simp only [spec_SizeOf.l0]
      rw [if_pos (by omega), if_pos (by omega), spec_l1In_eq, rdn l i hlt, decide_eq_false hx]
      rfl
theorem spec_SizeOf_ev (l : List Int) : Ev (fun k => spec_SizeOf.f k l) (szOf l) := by
  unfold spec_SizeOf.f szOf
  by_cases h : 3 < l.length
  · rw [if_pos h]; exact evPos (by omega) (Ev.now _)
  · rw [if_neg h]
    refine evNeg (by omega) ?_
    exact spec_SizeOf_l0 l h l.length 0 false (by omega) (by simp [inR]) (by simp)

theorem spec_NumOk_eq (a : Int) : spec_NumOk.f a = some (okN a) := by
  unfold spec_NumOk.f; rw [spec_l1In_eq]; rfl

theorem spec_ArrayOk_l0 (s l : List Int) (hl : l.length ≤ 1048576) (d : Nat) : ∀ (i : Nat), i + d = l.length → (l.take i).all okN = true → Ev (fun k => spec_ArrayOk.l0 k (i : Int) s l) (l.all okN) := by
  induction d with
  | zero =>
    intro i hi ht
    refine Ev.step (f := fun _ => some true) (fun k => ?_) (evSome ?_)
    · simp only [spec_ArrayOk.l0]; rw [if_neg (by omega)]
    · rw [List.take_of_length_le (by omega)] at ht; exact ht.symm
  | succ d ih =>
    intro i hi ht
    have hlt : i < l.length := by omega
    by_cases hx : okN l[i] = true
    · refine Ev.step (f := fun k => spec_ArrayOk.l0 k ((i + 1 : Nat) : Int) s l) (fun k => ?_) (ih (i + 1) (by omega) (by rw [List.take_succ_eq_append_getElem hlt, List.all_append, ht]; simp [hx]))
      simp only [spec_ArrayOk.l0]
      rw [if_pos (by omega), if_pos (by omega), spec_NumOk_eq, rdn l i hlt]; simp only [Option.bind_some]; rw [if_pos hx, w64s i (by omega)]
    · refine Ev.step (f := fun _ => some false) (fun k => ?_) (evSome ?_)
      · simp only [spec_ArrayOk.l0]
        rw [if_pos (by omega), if_pos (by omega), spec_NumOk_eq, rdn l i hlt]; simp only [Option.bind_some]; rw [if_neg hx]
      · symm; rw [List.all_eq_false]; exact ⟨_, List.getElem_mem hlt, hx⟩
theorem spec_ArrayOk_ev (s d : List Int) (hd : d.length ≤ 1048576) : Ev (fun k => spec_ArrayOk.f k s d) (arrayOk s d) := by
  unfold spec_ArrayOk.f arrayOk
  refine Ev.bind (spec_SizeOf_ev s) ?_
  by_cases h : szOf s = (d.length : Int)
  · refine evPos h (evEq (spec_ArrayOk_l0 s d hd d.length 0 (by omega) (by simp)) ?_)
    rw [decide_eq_true h.symm]; rfl
  · exact evNeg h (evSome (by rw [decide_eq_false (fun e => h e.symm)]; rfl))

theorem spec_l2Same_l0 (l m : List Int) (hl : l.length ≤ 35184372088832) (hm : l.length = m.length) (d : Nat) : ∀ (i : Nat), i + d = l.length → Ev (fun k => spec_l2Same.l0 k l m (i : Int)) (decide (l.drop i = m.drop i)) := by
  induction d with
  | zero =>
    intro i hi
    refine Ev.step (f := fun _ => some (decide (l.drop i = m.drop i))) (fun k => ?_) (Ev.now _)
    simp only [spec_l2Same.l0]
    rw [if_neg (by omega), List.drop_of_length_le (by omega), List.drop_of_length_le (by omega)]; simp
  | succ d ih =>
    intro i hi
    have hlt : i < l.length := by omega
    have hlt' : i < m.length := by omega
    have e1 := List.drop_eq_getElem_cons hlt
    have e2 := List.drop_eq_getElem_cons hlt'
    by_cases hx : l[i] = m[i]
    · refine Ev.step (f := fun k => spec_l2Same.l0 k l m ((i + 1 : Nat) : Int)) (fun k => ?_) (evEq (ih (i + 1) (by omega)) ?_)
      · simp only [spec_l2Same.l0]
        rw [if_pos (by omega), if_pos (by omega), if_pos (by omega), rdn l i hlt, rdn m i hlt', if_pos hx, w64s i (by omega)]
      · rw [e1, e2, hx]; simp only [List.cons.injEq, true_and]
    · refine Ev.step (f := fun _ => some false) (fun k => ?_) (evSome ?_)
      · simp only [spec_l2Same.l0]
        rw [if_pos (by omega), if_pos (by omega), if_pos (by omega), rdn l i hlt, rdn m i hlt', if_neg hx]
      · rw [e1, e2]; symm; rw [decide_eq_false_iff_not]; intro h; exact hx (List.cons.inj h).1
theorem spec_l2Same_ev (l m : List Int) (hl : l.length ≤ 35184372088832) : Ev (fun k => spec_l2Same.f k l m) (decide (l = m)) := by
  unfold spec_l2Same.f
  by_cases h : l.length = m.length
  · refine evPos (by omega) ?_
    exact spec_l2Same_l0 l m hl h l.length 0 (by omega)
  · refine evNeg (by omega) (evSome ?_)
    symm; rw [decide_eq_false_iff_not]; intro e; exact h (by rw [e])
theorem spec_l2Same_rfl (l : List Int) (hl : l.length ≤ 35184372088832) : Ev (fun k => spec_l2Same.f k l l) true := evEq (spec_l2Same_ev l l hl) (by simp)

theorem spec_Fit_j0 (s d s' d' : List Int) (b : Bool) (hs : s.length ≤ 1048576) (hs' : s'.length ≤ 1048576) : Ev (fun k => spec_Fit.j0 k b s d s' d') (if b = true then ([], 1) else (if s.length = 0 then (s', 0) else if s'.length = 0 then (s, 0) else if s.length = s'.length then (if s = s' then (s, 0) else ([], 3)) else ([], 4))) := by
  refine Ev.step (fun k => by rw [spec_Fit.j0]) ?_
  simp only [Option.bind_some, List.length_nil, List.nil_append, Nat.zero_add]
  cases b with
  | true => exact evPos rfl (Ev.now _)
  | false =>
    simp only [Bool.false_eq_true, ↓reduceIte]
    by_cases h1 : s.length = 0
    · rw [if_pos h1]; exact evPos (by omega) (evPos (by omega) (Ev.now _))
    rw [if_neg h1]; refine evNeg (by omega) ?_
    by_cases h2 : s'.length = 0
    · rw [if_pos h2]; exact evPos (by omega) (evPos (by omega) (Ev.now _))
    rw [if_neg h2]; refine evNeg (by omega) ?_
    by_cases h3 : s.length = s'.length
    · rw [if_pos h3]; refine evPos (by omega) (Ev.bind (spec_l2Same_ev s s' (by omega)) ?_)
      by_cases h4 : s = s'
      · rw [if_pos h4]; exact evPos (decide_eq_true h4) (evPos (by omega) (Ev.now _))
      · rw [if_neg h4]; exact evNeg (by simpa using h4) (Ev.now _)
    · rw [if_neg h3]; exact evNeg (by omega) (Ev.now _)
theorem spec_Fit_ev (s d s' d' : List Int) (hs : s.length ≤ 1048576) (hd : d.length ≤ 1048576) (hs' : s'.length ≤ 1048576) (hd' : d'.length ≤ 1048576) : Ev (fun k => spec_Fit.f k s d s' d') (fit s d s' d') := by
  unfold spec_Fit.f fit
  refine Ev.bind (spec_ArrayOk_ev s d hd) ?_
  by_cases h1 : arrayOk s d = true
  · refine evPos h1 (Ev.bind (spec_ArrayOk_ev s' d' hd') ?_)
    refine evEq (spec_Fit_j0 s d s' d' _ hs hs') ?_
    by_cases h2 : arrayOk s' d' = true
    · rw [if_neg (by rw [h2]; simp), if_pos (And.intro h1 h2)]
    · rw [if_pos (by simp [h2]), if_neg (fun h : _ ∧ _ => h2 h.2)]
  · refine evNeg h1 (evEq (spec_Fit_j0 s d s' d' true hs hs') ?_)
    rw [if_pos rfl, if_neg (fun h : _ ∧ _ => h1 h.1)]

theorem spec_l1Sign2_eq (s : Int) : spec_l1Sign2.f s = some (sign2 s) := by
  unfold spec_l1Sign2.f sign2
  repeat (split; · simp_all)
  congr 1; rw [Bool.eq_iff_iff]; simp_all

theorem spec_l1Bit_eq (b : Bool) : spec_l1Bit.f b = some (tru b) := by cases b <;> rfl

theorem spec_l1MaxT_eq (a b : Int) : spec_l1Max.f a b = some (if a < b then b else a) := by unfold spec_l1Max.f; split <;> split <;> first | rfl | omega | (congr 1; omega)
theorem spec_l1Min_eq (a b : Int) : spec_l1Min.f a b = some (if b < a then b else a) := by unfold spec_l1Min.f; split <;> split <;> first | rfl | omega | (congr 1; omega)
theorem spec_l1Floor_eq (a b : Int) (hb : b ≠ 0) (h : -1000000000000 ≤ a ∧ a ≤ 1000000000000) : spec_l1Floor.f a b = some (Int.fdiv a b) := floor_is a b hb h
theorem spec_l1Times_ev (a b : Int) (ha : -1000000000000 ≤ a ∧ a ≤ 1000000000000) (hb : -1000000000000 ≤ b ∧ b ≤ 1000000000000) : ∃ y, Ev (fun k => spec_l1Times.f k a b) (y, okN (a * b)) ∧ (okN (a * b) = true → y = a * b) := by
  unfold spec_l1Times.f
  have hz : a * b = 0 → ∀ c, c = true → Ev (fun k => spec_l1Times.j0 k a b c) (0, true) := by
    intro _ c hc
    refine Ev.step (f := fun _ => some (0, true)) (fun k => ?_) (Ev.now _)
    simp only [spec_l1Times.j0]; rw [if_pos hc]
  by_cases h0 : a = 0
  · have e : a * b = 0 := by rw [h0, Int.zero_mul]
    rw [e]
    exact ⟨0, evPos h0 (hz e _ rfl), fun _ => rfl⟩
  · by_cases h1 : b = 0
    · have e : a * b = 0 := by rw [h1, Int.mul_zero]
      rw [e]
      exact ⟨0, evNeg h0 (hz e _ (by simp [h1])), fun _ => rfl⟩
    · have e1 : spec_l1Max.f a (wrap64 (-a)) = some (ab a) := by rw [w64 (by omega) (by omega), spec_l1MaxT_eq]; congr 1; unfold ab; split <;> split <;> omega
      have e2 : spec_l1Max.f b (wrap64 (-b)) = some (ab b) := by rw [w64 (by omega) (by omega), spec_l1MaxT_eq]; congr 1; unfold ab; split <;> split <;> omega
      have h2 : 0 < ab b := by unfold ab; split <;> omega
      have h3 : 0 ≤ 1000000000000 / ab b := Int.ediv_nonneg (by decide) (by omega)
      have h4 : 1000000000000 / ab b ≤ 1000000000000 := Int.ediv_le_self _ (by decide)
      have h5 : okN (a * b) = !decide (ab a > 1000000000000 / ab b) := by rw [Int.mul_comm]; exact okN_prod h1
      by_cases h6 : ab a > 1000000000000 / ab b
      · refine ⟨0, evNeg h0 (Ev.step (f := fun _ => some (0, false)) (fun k => ?_) (evSome (by rw [h5]; simp [h6]))), fun h => by rw [h5] at h; simp [h6] at h⟩
        simp only [spec_l1Times.j0]
        rw [if_neg (by simp [h1]), e1, e2]; simp only [Option.bind_some]
        rw [if_neg (by omega), Int.tdiv_eq_ediv_of_nonneg (by decide), w64 (x := 1000000000000 / ab b) (by omega) (by omega), if_pos h6]
      · have h7 : okN (a * b) = true := by rw [h5]; simp [h6]
        have h8 := okN_t h7
        refine ⟨a * b, evNeg h0 (Ev.step (f := fun _ => some (a * b, true)) (fun k => ?_) (evSome (by rw [h7]))), fun _ => rfl⟩
        simp only [spec_l1Times.j0]
        rw [if_neg (by simp [h1]), e1, e2]; simp only [Option.bind_some]
        rw [if_neg (by omega), Int.tdiv_eq_ediv_of_nonneg (by decide), w64 (x := 1000000000000 / ab b) (by omega) (by omega), if_neg h6, w64 (x := a * b) (by omega) (by omega)]
theorem spec_lim (x : Int) : (spec_NumOk.f x).bind (fun t => if t = true then some (x, (0 : Int)) else some (0, 6)) = some (lim x) := by
  rw [spec_NumOk_eq]; simp only [Option.bind_some, lim]; split <;> rfl
theorem spec_Two_ev (s a b : Int) : Ev (fun k => spec_Two.f k s a b) (two s a b) := by
  unfold spec_Two.f
  refine evBind0 (spec_l1Sign2_eq s) ?_
  have hbad : ¬ (sign2 s = true ∧ okN a = true ∧ okN b = true) → Ev (fun k => spec_Two.j0 k s a b true) (two s a b) := by
    intro h
    unfold two; rw [if_neg h]
    refine Ev.step (f := fun _ => some (0, 1)) (fun k => ?_) (Ev.now _)
    rw [spec_Two.j0]; exact if_pos rfl
  by_cases hs : sign2 s = true
  · refine evPos hs (evBind0 (spec_NumOk_eq a) ?_)
    by_cases ha : okN a = true
    · refine evPos ha (evBind0 (spec_NumOk_eq b) ?_)
      by_cases hb : okN b = true
      · unfold two
        rw [if_pos ⟨hs, ha, hb⟩, hb]
        have ha' := okN_t ha
        have hb' := okN_t hb
        obtain ⟨y, hy, hy2⟩ := spec_l1Times_ev a b ha' hb'
        refine Ev.step (g := fun k => spec_Two.j0 k s a b (!true)) (fun k => by simp only [spec_Two.j0]; rfl) ?_
        refine evNeg (by simp) ?_
        rw [w64 (x := a + b) (by omega) (by omega), w64 (x := a - b) (by omega) (by omega)]
        by_cases h : s = 43
        · refine evPos h ?_; rw [if_pos h]; exact evSomeEq (spec_lim _)
        · refine evNeg h ?_; rw [if_neg h]
          by_cases h : s = 45
          · refine evPos h ?_; rw [if_pos h]; exact evSomeEq (spec_lim _)
          · refine evNeg h ?_; rw [if_neg h]
            by_cases h : s = 42
            · refine evPos h ?_; rw [if_pos h]
              refine Ev.bind hy ?_
              by_cases h2 : okN (a * b) = true
              · refine evPos h2 ?_; rw [hy2 h2]; exact evSomeEq (spec_lim _)
              · refine evNeg h2 ?_; rw [lim, if_neg h2]; exact Ev.now _
            · refine evNeg h ?_; rw [if_neg h]
              by_cases h : s = 37
              · refine evPos h ?_; rw [if_pos h]
                by_cases h2 : b = 0
                · refine evPos h2 ?_; rw [if_pos h2]; exact Ev.now _
                · refine evNeg h2 ?_; rw [if_neg h2, spec_l1Floor_eq a b h2 ha']; exact evSomeEq (spec_lim _)
              · refine evNeg h ?_; rw [if_neg h]
                by_cases h : s = 124
                · refine evPos h ?_; rw [if_pos h]
                  by_cases h2 : a = 0
                  · refine evPos h2 ?_; rw [if_pos h2]; exact evSomeEq (spec_lim _)
                  · refine evNeg h2 ?_; rw [if_neg h2, spec_l1Floor_eq b a h2 hb']
                    have h3 := fmod_le (b := b) ha' h2
                    have h4 := Int.fmod_def b a
                    rw [Option.bind_some, w64 (x := a * Int.fdiv b a) (by omega) (by omega), ← h4, w64 (by omega) (by omega)]
                    exact evSomeEq (spec_lim _)
                · refine evNeg h ?_; rw [if_neg h]
                  by_cases h : s = 38
                  · refine evPos h ?_; rw [if_pos h, spec_l1Min_eq]; exact evSomeEq (spec_lim _)
                  · refine evNeg h ?_; rw [if_neg h]
                    by_cases h : s = 94
                    · refine evPos h ?_; rw [if_pos h, spec_l1MaxT_eq]; exact evSomeEq (spec_lim _)
                    · refine evNeg h ?_; rw [if_neg h]
                      by_cases h : s = 61
                      · refine evPos h ?_; rw [if_pos h, spec_l1Bit_eq]; exact evSomeEq (spec_lim _)
                      · refine evNeg h ?_; rw [if_neg h]
                        by_cases h : s = 60
                        · refine evPos h ?_; rw [if_pos h, spec_l1Bit_eq]; exact evSomeEq (spec_lim _)
                        · refine evNeg h ?_; rw [if_neg h]
                          have h62 : s = 62 := by
                            have hq : s = 43 ∨ s = 45 ∨ s = 42 ∨ s = 37 ∨ s = 124 ∨ s = 38 ∨ s = 94 ∨ s = 61 ∨ s = 60 ∨ s = 62 := of_decide_eq_true hs
                            omega
                          refine evPos h62 ?_; rw [spec_l1Bit_eq]; exact evSomeEq (spec_lim _)
      · rw [Bool.eq_false_iff.2 hb]; exact hbad (fun h => hb h.2.2)
    · exact evNeg ha (hbad (fun h => ha h.2.1))
  · exact evNeg hs (hbad (fun h => hs h.1))

theorem spec_l4Of_eq (s d : List Int) (i : Nat) (h0 : s.length = 0 → 0 < d.length) (h1 : s.length ≠ 0 → i < d.length) : spec_l4Of.f s d (i : Int) = some (atA s d i) := by
  unfold spec_l4Of.f atA
  by_cases h : s.length = 0
  · rw [if_pos (by omega), if_pos (by have := h0 h; omega), if_pos h]
  · rw [if_neg (by omega), if_pos (by omega), if_pos (by have := h1 h; omega), if_neg h]
theorem spec_EachTwo_l0 (s : Int) (a b c d sh : List Int) (N : Nat) (hz : szOf sh = (N : Int)) (h3 : N ≤ 300) (hi : ∀ i, i < N → ((a.length = 0 → 0 < b.length) ∧ (a.length ≠ 0 → i < b.length)) ∧ ((c.length = 0 → 0 < d.length) ∧ (c.length ≠ 0 → i < d.length))) (n : Nat) : ∀ (i : Nat) (o : List Int), i + n = N → o.length = i → Ev (fun k => spec_EachTwo.l0 k s sh (i : Int) a b c d sh o) (if (mapN (fun i => two s (atA a b i) (atA c d i)) n i).2 = 0 then (sh, o ++ (mapN (fun i => two s (atA a b i) (atA c d i)) n i).1, 0) else ([], [], (mapN (fun i => two s (atA a b i) (atA c d i)) n i).2)) := by
  induction n with
  | zero =>
    intro i o h1 ho
    refine Ev.step (fun k => by rw [spec_EachTwo.l0]) ?_
    refine Ev.bind (spec_SizeOf_ev sh) (evNeg (by omega) (evSome ?_))
    simp [mapN]
  | succ n ih =>
    intro i o h1 ho
    have hii := hi i (by omega)
    refine Ev.step (fun k => by rw [spec_EachTwo.l0]) ?_
    refine Ev.bind (spec_SizeOf_ev sh) (evPos (by omega) ?_)
    refine evBind0 (spec_l4Of_eq a b i hii.1.1 hii.1.2) (evBind0 (spec_l4Of_eq c d i hii.2.1 hii.2.2) (Ev.bind (spec_Two_ev s (atA a b i) (atA c d i)) ?_))
    rw [w64s i (by omega)]
    have ih' := ih (i + 1) (o ++ [(two s (atA a b i) (atA c d i)).1]) (by omega) (by simp [ho])
    by_cases h : (two s (atA a b i) (atA c d i)).2 = 0
    · refine evPos h (evPos (by omega) (evEq ih' ?_))
      rw [mapN]
      simp only [if_pos h]
      by_cases h2 : (mapN (fun i => two s (atA a b i) (atA c d i)) n (i + 1)).2 = 0
      · simp only [if_pos h2, List.append_assoc, List.singleton_append]; rfl
      · simp only [if_neg h2]
    · refine evNeg h (evSome ?_)
      rw [mapN]
      simp only [if_neg h]
theorem spec_EachTwo_ev (s : Int) (a b c d : List Int) (ha : a.length ≤ 1048576) (hb : b.length ≤ 1048576) (hc : c.length ≤ 1048576) (hd : d.length ≤ 1048576) : Ev (fun k => spec_EachTwo.f k s a b c d) (eachTwo s a b c d) := by
  unfold spec_EachTwo.f eachTwo
  have hbad : Ev (fun k => spec_EachTwo.j0 k s true a b c d) ([], [], 1) := Ev.step (fun k => by rw [spec_EachTwo.j0]) (evPos rfl (Ev.now _))
  refine Ev.bind (spec_ArrayOk_ev a b hb) ?_
  by_cases h1 : arrayOk a b = true
  · refine evPos h1 (Ev.bind (spec_ArrayOk_ev c d hd) ?_)
    by_cases h2 : arrayOk c d = true
    · refine evPos h2 (evBind0 (spec_l1Sign2_eq s) ?_)
      by_cases h4 : sign2 s = true
      · rw [h4]
        refine evEq ?_ (if_pos (And.intro (And.intro h1 h2) rfl)).symm
        refine Ev.step (fun k => by rw [spec_EachTwo.j0]) (evNeg (by simp) ?_)
        refine Ev.bind (spec_Fit_ev a b c d ha hb hc hd) ?_
        by_cases h3 : (fit a b c d).2 = 0
        · obtain ⟨N, hz, hN, hi⟩ := fit_at h1 h2 h3
          refine evEq (evPos h3 ?_) (if_pos h3).symm
          have e : (szOf (fit a b c d).1).toNat = N := by omega
          rw [e]
          exact evEq (spec_EachTwo_l0 s a b c d (fit a b c d).1 N hz hN hi N 0 [] (by omega) rfl) (by rw [List.nil_append])
        · exact evEq (evNeg h3 (Ev.now _)) (if_neg h3).symm
      · rw [Bool.eq_false_iff.2 h4]
        exact evEq hbad (if_neg (fun hh : _ ∧ _ => absurd hh.2 (by simp))).symm
    · exact evEq (evNeg h2 hbad) (if_neg (fun hh : _ ∧ _ => h2 hh.1.2)).symm
  · exact evEq (evNeg h1 hbad) (if_neg (fun hh : _ ∧ _ => h1 hh.1.1)).symm

theorem laws_szIntS_eq (a : List Int) (n : Int) (ha : a.length ≤ 9223372036854775807) (h0 : 0 ≤ n) (h1 : n ≤ 1048576) : ∃ v, laws_szIntS.f a n = some v ∧ (v < 0 ∨ (0 ≤ v ∧ v ≤ n ∧ a.length ≤ 1048576)) := by
  unfold laws_szIntS.f
  rw [w64 (by omega) (by omega)]
  by_cases h : n - (a.length : Int) < 0
  · rw [if_pos h]; exact ⟨_, rfl, .inl (by omega)⟩
  · rw [if_neg h]; exact ⟨_, rfl, .inr (by omega)⟩
theorem laws_szArray_eq (a b : List Int) (n : Int) (ha : a.length ≤ 9223372036854775807) (hb : b.length ≤ 9223372036854775807) (h0 : 0 ≤ n) (h1 : n ≤ 1048576) : ∃ v, laws_szArray.f a b n = some v ∧ (v < 0 ∨ (0 ≤ v ∧ v ≤ 1048576 ∧ a.length ≤ 1048576 ∧ b.length ≤ 1048576)) := by
  unfold laws_szArray.f
  obtain ⟨v, hv, h⟩ := laws_szIntS_eq a n ha h0 h1
  rw [hv, Option.bind_some]
  rcases h with h | ⟨h2, h3, h4⟩
  · rw [if_pos h]; exact ⟨_, rfl, .inl (by omega)⟩
  · rw [if_neg (by omega)]
    obtain ⟨u, hu, h5⟩ := laws_szIntS_eq b v hb h2 (by omega)
    rw [hu, Option.bind_some]
    rcases h5 with h5 | ⟨h6, h7, h8⟩
    · rw [if_pos h5]; exact ⟨_, rfl, .inl (by omega)⟩
    · rw [if_neg (by omega)]; exact ⟨_, rfl, .inr (by omega)⟩

theorem laws_toIntS_l0 (l : List Int) (hl : l.length ≤ 35184372088832) (d : Nat) : ∀ (i : Nat) (m : List Int), i + d = l.length → m.length = l.length → m.take i = l.take i → Ev (fun k => laws_toIntS.l0 k l m (i : Int)) l := by
  induction d with
  | zero =>
    intro i m hi hm ht
    have e : m = l := by rw [List.take_of_length_le (by omega), List.take_of_length_le (by omega)] at ht; exact ht
    refine Ev.step (f := fun _ => some l) (fun k => ?_) (Ev.now _)
    simp only [laws_toIntS.l0]; rw [if_neg (by omega), e]
  | succ d ih =>
    intro i m hi hm ht
    have hlt : i < l.length := by omega
    refine Ev.step (f := fun k => laws_toIntS.l0 k l (m.set i l[i]) ((i + 1 : Nat) : Int)) (fun k => ?_) (ih (i + 1) (m.set i l[i]) (by omega) (by rw [List.length_set, hm]) ?_)
    · simp only [laws_toIntS.l0]
      rw [if_pos (by omega), if_pos (by omega), if_pos (by omega), rdn l i hlt, w64s i (by omega), Int.toNat_natCast]
    · rw [List.take_succ_eq_append_getElem (l := m.set i l[i]) (i := i) (by rw [List.length_set]; omega), List.take_succ_eq_append_getElem hlt, List.getElem_set_self, List.take_set_of_le (Nat.le_refl i), ht]
theorem laws_toIntS_ev (l : List Int) (hl : l.length ≤ 35184372088832) : Ev (fun k => laws_toIntS.f k l) l := by
  unfold laws_toIntS.f
  refine evPos (by omega) (evPos (by omega) ?_)
  exact laws_toIntS_l0 l hl l.length 0 _ (by omega) (by simp) (by simp)

theorem laws_toArray_ev (a b : List Int) (ha : a.length ≤ 1048576) (hb : b.length ≤ 1048576) : Ev (fun k => laws_toArray.f k a b) (a, b) := by
  unfold laws_toArray.f
  exact Ev.bind (laws_toIntS_ev a (by omega)) (Ev.bind (laws_toIntS_ev b (by omega)) (Ev.now _))

theorem laws_eqIntS_l0 (l m : List Int) (hl : l.length ≤ 35184372088832) (hm : l.length = m.length) (d : Nat) : ∀ (i : Nat), i + d = l.length → Ev (fun k => laws_eqIntS.l0 k l m (i : Int)) (decide (l.drop i = m.drop i)) := by
  induction d with
  | zero =>
    intro i hi
    refine Ev.step (f := fun _ => some (decide (l.drop i = m.drop i))) (fun k => ?_) (Ev.now _)
    simp only [laws_eqIntS.l0]
    rw [if_neg (by omega), List.drop_of_length_le (by omega), List.drop_of_length_le (by omega)]; simp
  | succ d ih =>
    intro i hi
    have hlt : i < l.length := by omega
    have hlt' : i < m.length := by omega
    have e1 := List.drop_eq_getElem_cons hlt
    have e2 := List.drop_eq_getElem_cons hlt'
    by_cases hx : l[i] = m[i]
    · refine Ev.step (f := fun k => laws_eqIntS.l0 k l m ((i + 1 : Nat) : Int)) (fun k => ?_) (evEq (ih (i + 1) (by omega)) ?_)
      · simp only [laws_eqIntS.l0]
        rw [if_pos (by omega), if_pos (by omega), if_pos (by omega), rdn l i hlt, rdn m i hlt', if_pos hx, w64s i (by omega)]
      · rw [e1, e2, hx]; simp only [List.cons.injEq, true_and]
    · refine Ev.step (f := fun _ => some false) (fun k => ?_) (evSome ?_)
      · simp only [laws_eqIntS.l0]
        rw [if_pos (by omega), if_pos (by omega), if_pos (by omega), rdn l i hlt, rdn m i hlt', if_neg hx]
      · rw [e1, e2]; symm; rw [decide_eq_false_iff_not]; intro h; exact hx (List.cons.inj h).1
theorem laws_eqIntS_ev (l m : List Int) (hl : l.length ≤ 35184372088832) : Ev (fun k => laws_eqIntS.f k l m) (decide (l = m)) := by
  unfold laws_eqIntS.f
  by_cases h : l.length = m.length
  · refine evPos (by omega) ?_
    exact laws_eqIntS_l0 l m hl h l.length 0 (by omega)
  · refine evNeg (by omega) (evSome ?_)
    symm; rw [decide_eq_false_iff_not]; intro e; exact h (by rw [e])
theorem laws_eqIntS_rfl (l : List Int) (hl : l.length ≤ 35184372088832) : Ev (fun k => laws_eqIntS.f k l l) true := evEq (laws_eqIntS_ev l l hl) (by simp)

theorem laws_eqArray_ev (a b c d : List Int) (ha : a.length ≤ 35184372088832) (hb : b.length ≤ 35184372088832) : Ev (fun k => laws_eqArray.f k a b c d) (decide (a = c ∧ b = d)) := by
  unfold laws_eqArray.f
  refine Ev.bind (laws_eqIntS_ev a c ha) ?_
  by_cases h : a = c
  · refine evPos (by simpa using h) (Ev.bind (laws_eqIntS_ev b d hb) ?_)
    by_cases h2 : b = d
    · exact evPos (by simpa using h2) (evSome (by simp [h, h2]))
    · exact evNeg (by simpa using h2) (evSome (by simp [h2]))
  · exact evNeg (by simpa using h) (evSome (by simp [h]))
theorem laws_eqArray_rfl (a b : List Int) (ha : a.length ≤ 35184372088832) (hb : b.length ≤ 35184372088832) : Ev (fun k => laws_eqArray.f k a b a b) true := evEq (laws_eqArray_ev a b a b ha hb) (by simp)

/-- The numbers that a mark leaves: from a on. -/
def asc (a : Int) : Nat → List Int
  | 0 => []
  | n + 1 => a :: asc (a + 1) n
theorem asc_length : ∀ (n : Nat) (a : Int), (asc a n).length = n
  | 0, _ => rfl
  | n + 1, a => by simp [asc, asc_length n]
theorem asc_get : ∀ (n : Nat) (a : Int) (i : Nat) (h : i < (asc a n).length), (asc a n)[i] = a + i
  | 0, _, i, h => by simp [asc] at h
  | n + 1, a, 0, _ => by simp [asc]
  | n + 1, a, i + 1, h => by
    have h2 : i < (asc (a + 1) n).length := by rw [asc_length] at h ⊢; omega
    have := asc_get n (a + 1) i h2
    simp only [asc, List.getElem_cons_succ, this]; omega
theorem asc_snoc : ∀ (n : Nat) (a : Int), asc a (n + 1) = asc a n ++ [a + n]
  | 0, a => by simp [asc]
  | n + 1, a => by
    rw [asc, asc_snoc n (a + 1)]; simp only [asc, List.cons_append]; congr 3; omega

theorem laws_markIntS_l0 (n : Nat) (a : Int) (hn : n ≤ 35184372088832) (h0 : 0 ≤ a) (h1 : a ≤ 1000000000000000) (d : Nat) : ∀ (i : Nat) (m : List Int), i + d = n → m.length = n → m.take i = asc a i → Ev (fun k => laws_markIntS.l0 k m (a + i) (i : Int)) (a + n, asc a n) := by
  induction d with
  | zero =>
    intro i m hi hm ht
    have hin : i = n := by omega
    have e : m = asc a n := by rw [List.take_of_length_le (by omega)] at ht; rw [ht, hin]
    refine Ev.step (f := fun _ => some (a + (n : Int), asc a n)) (fun k => ?_) (Ev.now _)
    simp only [laws_markIntS.l0]; rw [if_neg (by omega), e, hin]
  | succ d ih =>
    intro i m hi hm ht
    refine Ev.step (f := fun k => laws_markIntS.l0 k (m.set i (a + i)) (a + ((i + 1 : Nat) : Int)) ((i + 1 : Nat) : Int)) (fun k => ?_) (ih (i + 1) (m.set i (a + i)) (by omega) (by rw [List.length_set, hm]) ?_)
    · simp only [laws_markIntS.l0]
      have e : wrap64 (a + (i : Int) + 1) = a + ((i + 1 : Nat) : Int) := by rw [w64] <;> omega
      rw [if_pos (by omega), if_pos (by omega), w64s i (by omega), Int.toNat_natCast, e]
    · rw [List.take_succ_eq_append_getElem (l := m.set i (a + i)) (i := i) (by rw [List.length_set]; omega), List.getElem_set_self, List.take_set_of_le (Nat.le_refl i), ht, asc_snoc]
theorem laws_markIntS_ev (l : List Int) (a : Int) (hl : l.length ≤ 35184372088832) (h0 : 0 ≤ a) (h1 : a ≤ 1000000000000000) : Ev (fun k => laws_markIntS.f k l a) (a + l.length, asc a l.length) := by
  unfold laws_markIntS.f
  have := laws_markIntS_l0 l.length a hl h0 h1 l.length 0 l (by omega) rfl (by simp [asc])
  simpa using this

theorem laws_markArray_ev (a b : List Int) (n : Int) (ha : a.length ≤ 35184372088832) (hb : b.length ≤ 35184372088832) (h0 : 0 ≤ n) (h1 : n ≤ 500000000000000) : Ev (fun k => laws_markArray.f k a b n) (n + a.length + b.length, asc n a.length, asc (n + a.length) b.length) := by
  unfold laws_markArray.f
  refine Ev.bind (laws_markIntS_ev a n ha h0 (by omega)) (Ev.bind (laws_markIntS_ev b _ hb (by omega) (by omega)) (Ev.now _))

theorem laws_heldIntS_l0 (n : Nat) (a : Int) (hn : n ≤ 35184372088832) (h0 : 0 ≤ a) (h1 : a ≤ 1000000000000000) (d : Nat) : ∀ (i : Nat), i + d = n → Ev (fun k => laws_heldIntS.l0 k (asc a n) (a + i) (i : Int)) (a + n) := by
  induction d with
  | zero =>
    intro i hi
    have hin : i = n := by omega
    refine Ev.step (f := fun _ => some (a + (n : Int))) (fun k => ?_) (Ev.now _)
    simp only [laws_heldIntS.l0]; rw [if_neg (by rw [asc_length]; omega), hin]
  | succ d ih =>
    intro i hi
    refine Ev.step (f := fun k => laws_heldIntS.l0 k (asc a n) (a + ((i + 1 : Nat) : Int)) ((i + 1 : Nat) : Int)) (fun k => ?_) (ih (i + 1) (by omega))
    simp only [laws_heldIntS.l0]
    have e : wrap64 (a + (i : Int) + 1) = a + ((i + 1 : Nat) : Int) := by rw [w64] <;> omega
    have hlt : i < (asc a n).length := by rw [asc_length]; omega
    rw [if_pos (by rw [asc_length]; omega), if_pos (by omega), rdn _ i hlt, asc_get n a i hlt, if_pos rfl, w64s i (by omega), e]
theorem laws_heldIntS_ev (n : Nat) (a : Int) (hl : n ≤ 35184372088832) (h0 : 0 ≤ a) (h1 : a ≤ 1000000000000000) : Ev (fun k => laws_heldIntS.f k (asc a n) a) (a + n) := by
  unfold laws_heldIntS.f
  have := laws_heldIntS_l0 n a hl h0 h1 n 0 (by omega)
  simpa using this

theorem laws_heldArray_ev (a b : Nat) (n : Int) (ha : a ≤ 35184372088832) (hb : b ≤ 35184372088832) (h0 : 0 ≤ n) (h1 : n ≤ 500000000000000) : Ev (fun k => laws_heldArray.f k (asc n a) (asc (n + a) b) n) (n + a + b) := by
  unfold laws_heldArray.f
  refine Ev.bind (laws_heldIntS_ev a n ha h0 (by omega)) (evNeg (by omega) (Ev.bind (laws_heldIntS_ev b _ hb (by omega) (by omega)) (evNeg (by omega) (Ev.now _))))

theorem FnExactEachTwo : ∀ (a0 : Int) (l1_0 : List Int) (l1_1 : List Int) (l2_0 : List Int) (l2_1 : List Int), (Lit.int .i64 a0).wf = true → l1_0.length ≤ maxLen → (∀ x ∈ l1_0, (Lit.int .i64 x).wf = true) → l1_1.length ≤ maxLen → (∀ x ∈ l1_1, (Lit.int .i64 x).wf = true) → l2_0.length ≤ maxLen → (∀ x ∈ l2_0, (Lit.int .i64 x).wf = true) → l2_1.length ≤ maxLen → (∀ x ∈ l2_1, (Lit.int .i64 x).wf = true) → ∃ k, laws_FnExactEachTwo.f k a0 l1_0 l1_1 l2_0 l2_1 = some true := by
  intro a0 l1_0 l1_1 l2_0 l2_1 hw_a0 hm_l1_0 hw_l1_0 hm_l1_1 hw_l1_1 hm_l2_0 hw_l2_0 hm_l2_1 hw_l2_1
  have hi_a0 := wfI hw_a0
  have hn_l1_0 : l1_0.length ≤ 9223372036854775807 := hm_l1_0
  have hn_l1_1 : l1_1.length ≤ 9223372036854775807 := hm_l1_1
  have hn_l2_0 : l2_0.length ≤ 9223372036854775807 := hm_l2_0
  have hn_l2_1 : l2_1.length ≤ 9223372036854775807 := hm_l2_1
  suffices hE_ : Ev (fun k => laws_FnExactEachTwo.f k a0 l1_0 l1_1 l2_0 l2_1) true from Exists.elim hE_ (fun K_ h_ => ⟨K_, h_ K_ (Nat.le_refl _)⟩)
  unfold laws_FnExactEachTwo.f
  obtain ⟨v1, e1, h1⟩ := laws_szArray_eq l1_0 l1_1 1048576 hn_l1_0 hn_l1_1 (by omega) (by omega)
  refine evBind0 e1 ?_
  rcases h1 with h1 | ⟨ha1, hb1, hc1, hd1⟩
  · exact evPos h1 (Ev.now _)
  refine evNeg (by omega) ?_
  obtain ⟨v2, e2, h2⟩ := laws_szArray_eq l2_0 l2_1 v1 hn_l2_0 hn_l2_1 (by omega) (by omega)
  refine evBind0 e2 ?_
  rcases h2 with h2 | ⟨ha2, hb2, hc2, hd2⟩
  · exact evPos h2 (Ev.now _)
  refine evNeg (by omega) ?_
  have hv := eachTwo_len a0 l1_0 l1_1 l2_0 l2_1 (by omega) (by omega)
  repeat' (first
    | (dsimp only)
    | (with_reducible exact Ev.now _)
    | (with_reducible refine evPos rfl ?_)
    | (refine evNeg ?hc ?_; (case hc => first | omega | (simp; done)))
    | (refine evPos ?hc ?_; (case hc => omega))
    | (refine Ev.bind (laws_toArray_ev _ _ (by omega) (by omega)) ?_)
    | (refine Ev.bind (laws_toIntS_ev _ (by omega)) ?_)
    | (refine Ev.bind (laws_eqArray_rfl _ _ (by omega) (by omega)) ?_)
    | (refine Ev.bind (laws_eqIntS_rfl _ (by omega)) ?_)
    | (refine Ev.bind (laws_markArray_ev _ _ _ (by omega) (by omega) (by omega) (by omega)) ?_)
    | (refine Ev.bind (laws_heldArray_ev _ _ _ (by omega) (by omega) (by omega) (by omega)) ?_)
    | (refine Ev.bind (laws_markIntS_ev _ _ (by omega) (by omega) (by omega)) ?_)
    | (refine Ev.bind (laws_heldIntS_ev _ _ (by omega) (by omega) (by omega)) ?_)
    | (refine Ev.bind (spec_EachTwo_ev _ _ _ _ _ (by omega) (by omega) (by omega) (by omega)) ?_)
    | (refine Ev.bind (impl_EachTwo_ev _ _ _ _ _ (by omega) (by omega) (by omega) (by omega)) ?_)
    | (refine Ev.step (fun k => by simp only [laws_FnExactEachTwo.j0]; rfl) ?_)
    | (refine Ev.step (fun k => by simp only [laws_FnExactEachTwo.j1]; rfl) ?_)
    | (refine Ev.step (fun k => by simp only [laws_FnExactEachTwo.j2]; rfl) ?_)
  )


end Go.Proofs.Ytjkbndfaemjjiaa.Pure
