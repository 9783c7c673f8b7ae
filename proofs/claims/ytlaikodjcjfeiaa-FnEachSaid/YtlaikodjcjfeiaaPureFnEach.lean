/- The law FnEach answers true for each code: a sign on a drawn scalar and an array is that sign on each of its numbers; on two of one shape on each two. Conditions: those of the row's own reading alone. -/
import Derived.Test.YtlaikodjcjfeiaaPFnEachx
namespace Go.Proofs.Ytlaikodjcjfeiaa.Pure
open Go.RowKit Go.Proofs.Ytlaikodjcjfeiaa.PFnEach Go.Proofs.YtlaikodjcjfeiaaW.PrintWords Go.Proofs.YtlaikodjcjfeiaaW.PrintLast Go.Proofs.YtlaikodjcjfeiaaW.PrintMore
set_option linter.unusedVariables false
set_option linter.unusedSimpArgs false

section
variable {α β : Type}
theorem evPos {c : Prop} [Decidable c] {g h : Nat → Option α} {r : α} (hc : c) (e : Ev g r) : Ev (fun k => if c then g k else h k) r := by
  simpa only [if_pos hc] using e
theorem evNeg {c : Prop} [Decidable c] {g h : Nat → Option α} {r : α} (hc : ¬ c) (e : Ev h r) : Ev (fun k => if c then g k else h k) r := by
  simpa only [if_neg hc] using e
theorem evBind0 {o : Option α} {f : Nat → α → Option β} {a : α} {r : β} (h : o = some a) (k : Ev (fun n => f n a) r) : Ev (fun n => o.bind (f n)) r := by
  subst h; simpa only [Option.bind_some] using k
theorem evLet {a : α} {f : Nat → α → Option β} {r : β} (k : Ev (fun n => f n a) r) : Ev (fun n => (some a).bind (f n)) r := by
  simpa only [Option.bind_some] using k
theorem evEq {g : Nat → Option α} {r r' : α} (h : Ev g r) (e : r = r') : Ev g r' := e ▸ h
theorem evSomeEq {o : Option α} {r : α} (e : o = some r) : Ev (fun _ => o) r := e ▸ Ev.now r
theorem evSome {a r : α} (e : a = r) : Ev (fun _ => some a) r := e ▸ Ev.now a
end
theorem w64 {x : Int} (h : -9223372036854775808 ≤ x) (h' : x ≤ 9223372036854775807) : wrap64 x = x := by unfold wrap64; omega
theorem w64s (i : Nat) (h : i < 4611686018427387904) : wrap64 ((i : Int) + 1) = ((i + 1 : Nat) : Int) := by rw [w64] <;> omega
theorem rdn (l : List Int) (i : Nat) (h : i < l.length) : rd l (i : Int) = l[i] := by
  simp only [rd, Int.toNat_natCast, List.getD_eq_getElem?_getD, List.getElem?_eq_getElem h, Option.getD_some]
/-- The product of a list. -/
def prod : List Int → Int
  | [] => 1
  | x :: l => x * prod l
/-- May these stand in a shape? -/
def inR (l : List Int) : Bool := l.all fun n => decide (0 ≤ n ∧ n ≤ 300)
/-- How many numbers an array of a shape has; -1 where the shape isn't right. -/
def szOf (l : List Int) : Int := if 3 < l.length then -1 else if inR l = true then (if prod l > 300 then -1 else prod l) else -1
theorem mul300 {a b : Int} {m n : Int} (h0 : 0 ≤ a) (h1 : a ≤ m) (h2 : 0 ≤ b) (h3 : b ≤ n) : 0 ≤ a * b ∧ a * b ≤ m * n :=
  ⟨Int.mul_nonneg h0 h2, Int.mul_le_mul h1 h3 h2 (Int.le_trans h0 h1)⟩
theorem inR_cons {a : Int} {l : List Int} : inR (a :: l) = true ↔ (0 ≤ a ∧ a ≤ 300) ∧ inR l = true := by
  simp [inR]
/-- A part of a shape's product stays small. -/
def pw : Nat → Int
  | 0 => 1
  | n + 1 => 300 * pw n
theorem prod_le : ∀ (l : List Int), inR l = true → 0 ≤ prod l ∧ prod l ≤ pw l.length
  | [], _ => by simp [prod, pw]
  | a :: l, h => by
    obtain ⟨⟨h0, h1⟩, h2⟩ := inR_cons.1 h
    obtain ⟨h3, h4⟩ := prod_le l h2
    exact mul300 h0 h1 h3 h4
theorem prod_append : ∀ (a b : List Int), prod (a ++ b) = prod a * prod b
  | [], b => by simp [prod]
  | x :: a, b => by simp [prod, prod_append a b, Int.mul_assoc]
theorem pw_le {n : Nat} (h : n ≤ 3) : pw n ≤ 27000000 := by
  match n, h with
  | 0, _ => decide
  | 1, _ => decide
  | 2, _ => decide
  | 3, _ => decide
theorem inR_take {l : List Int} (i : Nat) (h : inR l = true) : inR (l.take i) = true := by
  simp only [inR, List.all_eq_true] at h ⊢
  exact fun x hx => h x (List.mem_of_mem_take hx)
theorem prod_take_succ (l : List Int) (i : Nat) (h : i < l.length) : prod (l.take (i + 1)) = prod (l.take i) * l[i] := by
  rw [List.take_succ_eq_append_getElem h, prod_append]; simp [prod]
/-- The product so far is small. -/
theorem prod_take_le (l : List Int) (i : Nat) (hl : ¬ 3 < l.length) (h : inR (l.take i) = true) : 0 ≤ prod (l.take i) ∧ prod (l.take i) ≤ 27000000 := by
  obtain ⟨h0, h1⟩ := prod_le _ h
  have h2 : (l.take i).length ≤ 3 := by rw [List.length_take]; omega
  exact ⟨h0, Int.le_trans h1 (pw_le h2)⟩
theorem inR_take_succ (l : List Int) (i : Nat) (h : i < l.length) : inR (l.take (i + 1)) = true ↔ inR (l.take i) = true ∧ (0 ≤ l[i] ∧ l[i] ≤ 300) := by
  unfold inR
  rw [List.take_succ_eq_append_getElem h, List.all_append, Bool.and_eq_true]; simp
theorem inR_not {l : List Int} (i : Nat) (h : i < l.length) (hx : ¬ (0 ≤ l[i] ∧ l[i] ≤ 300)) : inR l = false := by
  rw [← Bool.not_eq_true]
  intro hh
  simp only [inR, List.all_eq_true] at hh
  exact hx (of_decide_eq_true (hh _ (List.getElem_mem h)))
theorem szOf_ge (l : List Int) : -1 ≤ szOf l ∧ szOf l ≤ 300 := by
  unfold szOf
  by_cases h1 : 3 < l.length
  · rw [if_pos h1]; omega
  · rw [if_neg h1]
    by_cases h2 : inR l = true
    · rw [if_pos h2]
      have := (prod_le l h2).1
      by_cases h3 : prod l > 300
      · rw [if_pos h3]; omega
      · rw [if_neg h3]; omega
    · rw [if_neg h2]; omega

/-- A right number. -/
def okN (x : Int) : Bool := decide (-1000000000000 ≤ x ∧ x ≤ 1000000000000)
theorem okN_t {x : Int} (h : okN x = true) : -1000000000000 ≤ x ∧ x ≤ 1000000000000 := of_decide_eq_true h
theorem szOf_nonneg {l : List Int} (h : szOf l ≥ 0) : ¬ 3 < l.length ∧ inR l = true ∧ prod l ≤ 300 ∧ szOf l = prod l := by
  unfold szOf at h ⊢
  by_cases h1 : 3 < l.length
  · rw [if_pos h1] at h; omega
  · rw [if_neg h1] at h ⊢
    by_cases h2 : inR l = true
    · rw [if_pos h2] at h ⊢
      by_cases h3 : prod l > 300
      · rw [if_pos h3] at h; omega
      · rw [if_neg h3] at h ⊢; exact ⟨h1, h2, by omega, rfl⟩
    · rw [if_neg h2] at h; omega
def arrayOk (s d : List Int) : Bool := decide ((d.length : Int) = szOf s) && d.all okN
theorem arrayOk_t {s d : List Int} (h : arrayOk s d = true) : (d.length : Int) = szOf s ∧ (∀ x ∈ d, okN x = true) ∧ d.length ≤ 300 ∧ s.length ≤ 3 ∧ szOf s ≥ 0 := by
  unfold arrayOk at h
  rw [Bool.and_eq_true, decide_eq_true_iff, List.all_eq_true] at h
  have h1 := szOf_ge s
  have h2 : szOf s ≥ 0 := by omega
  exact ⟨h.1, h.2, by omega, by have := (szOf_nonneg h2).1; omega, h2⟩

def fit (s d s' d' : List Int) : List Int × Int :=
  if arrayOk s d = true ∧ arrayOk s' d' = true then
    (if s.length = 0 then (s', 0) else if s'.length = 0 then (s, 0) else if s.length = s'.length then (if s = s' then (s, 0) else ([], 3)) else ([], 4))
  else ([], 1)
theorem fit_len (s d s' d' : List Int) (hs : s.length ≤ 1048576) (hs' : s'.length ≤ 1048576) : (fit s d s' d').1.length ≤ 1048576 := by
  unfold fit
  repeat' split
  all_goals first | exact hs | exact hs' | simp

def sign1 (s : Int) : Bool := decide (s = 43 ∨ s = 45 ∨ s = 42 ∨ s = 124 ∨ s = 126)
def sign2 (s : Int) : Bool := decide (s = 43 ∨ s = 45 ∨ s = 42 ∨ s = 37 ∨ s = 124 ∨ s = 38 ∨ s = 94 ∨ s = 61 ∨ s = 60 ∨ s = 62)
/-- A number that is right, or the code of a limit. -/
def lim (x : Int) : Int × Int := if okN x = true then (x, 0) else (0, 6)
def tru (b : Bool) : Int := if b = true then 1 else 0
def one (s x : Int) : Int × Int :=
  if sign1 s = true ∧ okN x = true then
    (if s = 45 then (-x, 0) else if s = 42 then (tru (decide (x > 0)) - tru (decide (x < 0)), 0) else if s = 124 then (if x < 0 then -x else x, 0) else if s = 126 then (if 0 ≤ x ∧ x ≤ 1 then (1 - x, 0) else (0, 2)) else (x, 0))
  else (0, 1)
def two (s a b : Int) : Int × Int :=
  if sign2 s = true ∧ okN a = true ∧ okN b = true then
    (if s = 43 then lim (a + b) else if s = 45 then lim (a - b) else if s = 42 then lim (a * b)
     else if s = 37 then (if b = 0 then (0, 2) else lim (Int.fdiv a b)) else if s = 124 then lim (if a = 0 then b else Int.fmod b a)
     else if s = 38 then lim (if b < a then b else a) else if s = 94 then lim (if a < b then b else a)
     else if s = 61 then lim (tru (a == b)) else if s = 60 then lim (tru (decide (a < b))) else lim (tru (decide (a > b))))
  else (0, 1)
theorem tdiv_le {a b : Int} (h : -1000000000000 ≤ a ∧ a ≤ 1000000000000) : -1000000000000 ≤ Int.tdiv a b ∧ Int.tdiv a b ≤ 1000000000000 := by
  have := Int.natAbs_tdiv_le_natAbs a b; omega
theorem fmod_le {a b : Int} (h : -1000000000000 ≤ a ∧ a ≤ 1000000000000) (hb : a ≠ 0) : -1000000000000 ≤ Int.fmod b a ∧ Int.fmod b a ≤ 1000000000000 := by
  rcases Int.lt_or_gt_of_ne hb with h1 | h1
  · have h2 := Int.fmod_nonneg_of_pos (-b) (b := -a) (by omega)
    have h3 := Int.fmod_lt_of_pos (-b) (b := -a) (by omega)
    rw [Int.neg_fmod_neg] at h2 h3; omega
  · have h2 := Int.fmod_nonneg_of_pos b h1
    have h3 := Int.fmod_lt_of_pos b h1
    omega
/-- What floor tells: Go's quotient, one less where it doesn't divide and the signs differ. -/
theorem floor_is (a b : Int) (hb : b ≠ 0) (h : -1000000000000 ≤ a ∧ a ≤ 1000000000000) :
    (if b = 0 then none else (if (Int.tmod a b) = 0 then (some (wrap64 (Int.tdiv a b))) else (if ((decide (a < 0)) != (decide (b < 0))) = true then (some (wrap64 ((wrap64 (Int.tdiv a b)) - 1))) else (some (wrap64 (Int.tdiv a b)))))) = some (Int.fdiv a b) := by
  have ht := tdiv_le (b := b) h
  rw [if_neg hb, w64 (x := Int.tdiv a b) (by omega) (by omega), w64 (x := Int.tdiv a b - 1) (by omega) (by omega), Int.fdiv_eq_tdiv]
  by_cases h0 : Int.tmod a b = 0
  · rw [if_pos h0, if_pos (Int.dvd_iff_tmod_eq_zero.2 h0)]; simp
  · rw [if_neg h0, if_neg (fun hh => h0 (Int.dvd_iff_tmod_eq_zero.1 hh))]
    by_cases ha : a < 0
    · rw [if_neg (show ¬ 0 ≤ a by omega)]
      by_cases hb' : b < 0
      · rw [if_neg (by simp [ha, hb']), if_neg (show ¬ 0 ≤ b by omega), Int.sign_eq_neg_one_of_neg hb']; simp
      · rw [if_pos (by simp [ha, hb']), if_pos (show 0 ≤ b by omega), Int.sign_eq_one_of_pos (by omega)]
    · rw [if_pos (show 0 ≤ a by omega)]
      by_cases hb' : b < 0
      · rw [if_pos (by simp [ha, hb']), if_neg (show ¬ 0 ≤ b by omega)]
      · rw [if_neg (by simp [ha, hb']), if_pos (show 0 ≤ b by omega)]; simp
/-- A product beyond the limit, by a quotient. -/
theorem prod_lim {x y : Int} (hx : 0 < x) (hy : 0 ≤ y) : y > 1000000000000 / x ↔ x * y > 1000000000000 := by
  have h1 := Int.lt_ediv_add_one_mul_self 1000000000000 hx
  constructor
  · intro h
    have h2 : (1000000000000 / x + 1) * x ≤ y * x := Int.mul_le_mul_of_nonneg_right (by omega) (by omega)
    rw [Int.mul_comm y x] at h2; omega
  · intro h
    have h2 := Int.ediv_mul_le 1000000000000 (Int.ne_of_gt hx)
    by_cases h3 : y ≤ 1000000000000 / x
    · have h4 : y * x ≤ 1000000000000 / x * x := Int.mul_le_mul_of_nonneg_right h3 (by omega)
      rw [Int.mul_comm y x] at h4; omega
    · omega
/-- The size of a number. -/
def ab (x : Int) : Int := if x < 0 then -x else x
theorem ab_nonneg (x : Int) : 0 ≤ ab x := by unfold ab; split <;> omega
theorem ab_mul (x y : Int) : ab (x * y) = ab x * ab y := by
  have h : ∀ z : Int, ab z = (z.natAbs : Int) := fun z => by unfold ab; split <;> omega
  rw [h, h, h, Int.natAbs_mul, Int.natCast_mul]
theorem okN_ab (x : Int) : okN x = decide (ab x ≤ 1000000000000) := by
  unfold okN ab; rw [Bool.eq_iff_iff, decide_eq_true_iff, decide_eq_true_iff]; split <;> omega
theorem okN_prod {x y : Int} (hx : x ≠ 0) : okN (x * y) = !decide (ab y > 1000000000000 / ab x) := by
  have h0 : 0 < ab x := by unfold ab; split <;> omega
  have h1 := prod_lim h0 (ab_nonneg y)
  rw [okN_ab, ab_mul, Bool.eq_iff_iff, decide_eq_true_iff, Bool.not_eq_true', decide_eq_false_iff_not, h1]; omega

def mapN (g : Nat → Int × Int) : Nat → Nat → List Int × Int
  | 0, _ => ([], 0)
  | n + 1, i => if (g i).2 = 0 then (if (mapN g n (i + 1)).2 = 0 then ((g i).1 :: (mapN g n (i + 1)).1, 0) else ([], (mapN g n (i + 1)).2)) else ([], (g i).2)
/-- The number of an array at a place; its only one of rank nought. -/
def atA (s d : List Int) (i : Nat) : Int := if s.length = 0 then rd d 0 else rd d (i : Int)
def eachTwo (s : Int) (a b c d : List Int) : List Int × List Int × Int :=
  if (arrayOk a b = true ∧ arrayOk c d = true) ∧ sign2 s = true then
    (if (fit a b c d).2 = 0 then
      (if (mapN (fun i => two s (atA a b i) (atA c d i)) (szOf (fit a b c d).1).toNat 0).2 = 0 then ((fit a b c d).1, (mapN (fun i => two s (atA a b i) (atA c d i)) (szOf (fit a b c d).1).toNat 0).1, 0)
      else ([], [], (mapN (fun i => two s (atA a b i) (atA c d i)) (szOf (fit a b c d).1).toNat 0).2))
    else ([], [], (fit a b c d).2))
  else ([], [], 1)
theorem fit_at {a b c d : List Int} (h1 : arrayOk a b = true) (h2 : arrayOk c d = true) (hf : (fit a b c d).2 = 0) : ∃ N : Nat, szOf (fit a b c d).1 = (N : Int) ∧ N ≤ 300 ∧ ∀ i, i < N → ((a.length = 0 → 0 < b.length) ∧ (a.length ≠ 0 → i < b.length)) ∧ ((c.length = 0 → 0 < d.length) ∧ (c.length ≠ 0 → i < d.length)) := by
  obtain ⟨a1, a2, a3, a4, a5⟩ := arrayOk_t h1
  obtain ⟨c1, c2, c3, c4, c5⟩ := arrayOk_t h2
  have z0 : szOf [] = 1 := by decide
  have e0 : ∀ l : List Int, l.length = 0 → szOf l = 1 := fun l hl => by rw [List.length_eq_zero_iff.1 hl]; exact z0
  unfold fit at hf ⊢
  rw [if_pos (And.intro h1 h2)] at hf ⊢
  by_cases ha : a.length = 0
  · have := e0 a ha
    rw [if_pos ha]
    refine ⟨(szOf c).toNat, by dsimp only; omega, by omega, fun i hi => ⟨⟨fun _ => by omega, fun hh => absurd ha hh⟩, ⟨fun hh => ?_, fun _ => by omega⟩⟩⟩
    have := e0 c hh; omega
  · rw [if_neg ha] at hf ⊢
    by_cases hc : c.length = 0
    · have := e0 c hc
      rw [if_pos hc]
      exact ⟨(szOf a).toNat, by dsimp only; omega, by omega, fun i hi => ⟨⟨fun hh => absurd hh ha, fun _ => by omega⟩, ⟨fun _ => by omega, fun hh => absurd hc hh⟩⟩⟩
    · rw [if_neg hc] at hf ⊢
      by_cases hl : a.length = c.length
      · rw [if_pos hl] at hf ⊢
        by_cases he : a = c
        · rw [if_pos he]
          have e3 : szOf a = szOf c := by rw [he]
          exact ⟨(szOf a).toNat, by dsimp only; omega, by omega, fun i hi => ⟨⟨fun hh => absurd hh ha, fun _ => by omega⟩, ⟨fun hh => absurd hh hc, fun _ => by omega⟩⟩⟩
        · rw [if_neg he] at hf; simp at hf
      · rw [if_neg hl] at hf; simp at hf

theorem impl_within_eq (a b c : Int) : impl_within.f a b c = some (decide (b ≤ a ∧ a ≤ c)) := by
  unfold impl_within.f
  by_cases h : a ≥ b
  · rw [if_pos h]; congr 1; rw [Bool.eq_iff_iff, decide_eq_true_iff, decide_eq_true_iff]; omega
  · rw [if_neg h]; congr 1; symm; rw [decide_eq_false_iff_not]; omega

theorem impl_SizeOf_l0 (l : List Int) (hl : ¬ 3 < l.length) (d : Nat) : ∀ (i : Nat), i + d = l.length → inR (l.take i) = true → Ev (fun k => impl_SizeOf.l0 k (prod (l.take i)) l (l.length : Int) (i : Int)) (if inR l = true then (if prod l > 300 then -1 else prod l) else -1) := by
  induction d with
  | zero =>
    intro i hi hr
    have e : l.take i = l := List.take_of_length_le (by omega)
    rw [e] at hr ⊢
    rw [if_pos hr]
    refine Ev.step (f := fun _ => some (if prod l > 300 then -1 else prod l)) (fun k => ?_) (Ev.now _)
    simp only [impl_SizeOf.l0]; rw [if_neg (by omega)]
    by_cases h : prod l > 300
    · rw [if_pos h, if_pos h]
    · rw [if_neg h, if_neg h]
  | succ d ih =>
    intro i hi hr
    have hlt : i < l.length := by omega
    by_cases hx : 0 ≤ l[i] ∧ l[i] ≤ 300
    · have hr' := (inR_take_succ l i hlt).2 ⟨hr, hx⟩
      refine Ev.step (f := fun k => impl_SizeOf.l0 k (prod (l.take (i + 1))) l (l.length : Int) ((i + 1 : Nat) : Int)) (fun k => ?_) (ih (i + 1) (by omega) hr')
      simp only [impl_SizeOf.l0]
      rw [if_pos (by omega), if_pos (by omega), if_pos (by omega), impl_within_eq, rdn l i hlt, decide_eq_true hx]
      simp only [Option.bind_some, if_true]
      have hp := prod_take_le l (i + 1) hl hr'
      rw [w64s i (by omega), ← prod_take_succ l i hlt, w64 (by omega) (by omega)]
    · rw [if_neg (by rw [inR_not i hlt hx]; simp)]
      refine Ev.step (f := fun _ => some (-1)) (fun k => ?_) (Ev.now _)
      simp only [impl_SizeOf.l0]
      rw [if_pos (by omega), if_pos (by omega), if_pos (by omega), impl_within_eq, rdn l i hlt, decide_eq_false hx]
      rfl
theorem impl_SizeOf_ev (l : List Int) : Ev (fun k => impl_SizeOf.f k l) (szOf l) := by
  unfold impl_SizeOf.f szOf
  by_cases h : 3 < l.length
  · rw [if_pos h]; exact evPos (by omega) (Ev.now _)
  · rw [if_neg h]
    refine evNeg (by omega) ?_
    have := impl_SizeOf_l0 l h l.length 0 (by omega) (by simp [inR])
    simpa only [List.take_zero, prod, Int.ofNat_zero, Int.natCast_zero] using this

theorem impl_NumOk_eq (a : Int) : impl_NumOk.f a = some (okN a) := by
  unfold impl_NumOk.f; rw [impl_within_eq]; rfl

def p_ArrayOk1 (x : Int) : Bool := !okN x
theorem lit_ArrayOk1_eq (x : Int) : impl_ArrayOk_lit1.f x = some (p_ArrayOk1 x) := by
  unfold impl_ArrayOk_lit1.f; rw [impl_NumOk_eq]; rfl

theorem slices_IndexFunc_ArrayOk1_l0 (l : List Int) (hl : l.length ≤ 1048576) (d : Nat) : ∀ (i : Nat), i + d = l.length → (l.take i).all (fun x => !p_ArrayOk1 x) = true → ∃ r, Ev (fun k => slices_IndexFunc_ArrayOk1.l0 k l (l.length : Int) (i : Int)) r ∧ decide (r ≥ 0) = l.any p_ArrayOk1 := by
  induction d with
  | zero =>
    intro i hi ht
    refine ⟨-1, Ev.step (f := fun _ => some (-1)) (fun k => ?_) (Ev.now _), ?_⟩
    · simp only [slices_IndexFunc_ArrayOk1.l0]; rw [if_neg (by omega)]
    · have e : l.take i = l := List.take_of_length_le (by omega)
      rw [e] at ht
      symm; rw [show decide ((-1 : Int) ≥ 0) = false by decide, List.any_eq_false]
      intro x hx
      have := List.all_eq_true.1 ht x hx
      simpa using this
  | succ d ih =>
    intro i hi ht
    have hlt : i < l.length := by omega
    by_cases hx : p_ArrayOk1 l[i] = true
    · refine ⟨(i : Int), Ev.step (f := fun _ => some (i : Int)) (fun k => ?_) (Ev.now _), ?_⟩
      · simp only [slices_IndexFunc_ArrayOk1.l0]
        rw [if_pos (by omega), if_pos (by omega), if_pos (by omega), lit_ArrayOk1_eq, rdn l i hlt]; simp only [Option.bind_some]; rw [if_pos hx]
      · rw [decide_eq_true (by omega)]; symm; rw [List.any_eq_true]; exact ⟨_, List.getElem_mem hlt, hx⟩
    · obtain ⟨r, hr, h2⟩ := ih (i + 1) (by omega) (by rw [List.take_succ_eq_append_getElem hlt, List.all_append, ht]; simp [hx])
      refine ⟨r, Ev.step (f := fun k => slices_IndexFunc_ArrayOk1.l0 k l (l.length : Int) ((i + 1 : Nat) : Int)) (fun k => ?_) hr, h2⟩
      simp only [slices_IndexFunc_ArrayOk1.l0]
      rw [if_pos (by omega), if_pos (by omega), if_pos (by omega), lit_ArrayOk1_eq, rdn l i hlt]; simp only [Option.bind_some]; rw [if_neg hx, w64s i (by omega)]
theorem slices_ContainsFunc_ArrayOk1_ev (l : List Int) (hl : l.length ≤ 1048576) : Ev (fun k => slices_ContainsFunc_ArrayOk1.f k l) (l.any p_ArrayOk1) := by
  unfold slices_ContainsFunc_ArrayOk1.f slices_IndexFunc_ArrayOk1.f
  obtain ⟨r, hr, h⟩ := slices_IndexFunc_ArrayOk1_l0 l hl l.length 0 (by omega) (by simp)
  exact Ev.bind hr (evSome h)

theorem all_okN (d : List Int) : (!d.any p_ArrayOk1) = d.all okN := by
  rw [List.not_any_eq_all_not]; congr 1; funext x; simp [p_ArrayOk1]
theorem impl_ArrayOk_ev (s d : List Int) (hd : d.length ≤ 1048576) : Ev (fun k => impl_ArrayOk.f k s d) (arrayOk s d) := by
  unfold impl_ArrayOk.f arrayOk
  refine Ev.bind (impl_SizeOf_ev s) ?_
  by_cases h : (d.length : Int) = szOf s
  · exact evPos h (Ev.bind (slices_ContainsFunc_ArrayOk1_ev d hd) (evSome (by rw [all_okN, decide_eq_true h]; rfl)))
  · exact evNeg h (evSome (by rw [decide_eq_false h]; rfl))

theorem slices_Equal_l0 (l m : List Int) (hl : l.length ≤ 35184372088832) (hm : l.length = m.length) (d : Nat) : ∀ (i : Nat), i + d = l.length → Ev (fun k => slices_Equal_int_int.l0 k l m (l.length : Int) (i : Int)) (decide (l.drop i = m.drop i)) := by
  induction d with
  | zero =>
    intro i hi
    refine Ev.step (f := fun _ => some (decide (l.drop i = m.drop i))) (fun k => ?_) (Ev.now _)
    simp only [slices_Equal_int_int.l0]
    rw [if_neg (by omega), List.drop_of_length_le (by omega), List.drop_of_length_le (by omega)]; simp
  | succ d ih =>
    intro i hi
    have hlt : i < l.length := by omega
    have hlt' : i < m.length := by omega
    have e1 := List.drop_eq_getElem_cons hlt
    have e2 := List.drop_eq_getElem_cons hlt'
    by_cases hx : l[i] = m[i]
    · refine Ev.step (f := fun k => slices_Equal_int_int.l0 k l m (l.length : Int) ((i + 1 : Nat) : Int)) (fun k => ?_) (evEq (ih (i + 1) (by omega)) ?_)
      · simp only [slices_Equal_int_int.l0]
        rw [if_pos (by omega), if_pos (by omega), if_pos (by omega), if_pos (by omega), rdn l i hlt, rdn m i hlt', if_pos hx, w64s i (by omega)]
      · rw [e1, e2, hx]; simp only [List.cons.injEq, true_and]
    · refine Ev.step (f := fun _ => some false) (fun k => ?_) (evSome ?_)
      · simp only [slices_Equal_int_int.l0]
        rw [if_pos (by omega), if_pos (by omega), if_pos (by omega), if_pos (by omega), rdn l i hlt, rdn m i hlt', if_neg hx]
      · rw [e1, e2]; symm; rw [decide_eq_false_iff_not]; intro h; exact hx (List.cons.inj h).1
theorem slices_Equal_ev (l m : List Int) (hl : l.length ≤ 35184372088832) : Ev (fun k => slices_Equal_int_int.f k l m) (decide (l = m)) := by
  unfold slices_Equal_int_int.f
  by_cases h : l.length = m.length
  · refine evPos (by omega) ?_
    exact slices_Equal_l0 l m hl h l.length 0 (by omega)
  · refine evNeg (by omega) (evSome ?_)
    symm; rw [decide_eq_false_iff_not]; intro e; exact h (by rw [e])

theorem impl_Fit_j0 (s d s' d' : List Int) (b : Bool) (hs : s.length ≤ 1048576) (hs' : s'.length ≤ 1048576) : Ev (fun k => impl_Fit.j0 k s b s d s' d') (if b = true then ([], 1) else (if s.length = 0 then (s', 0) else if s'.length = 0 then (s, 0) else if s.length = s'.length then (if s = s' then (s, 0) else ([], 3)) else ([], 4))) := by
  refine Ev.step (fun k => by rw [impl_Fit.j0]) ?_
  cases b with
  | true => exact evPos rfl (Ev.now _)
  | false =>
    simp only [Bool.false_eq_true, ↓reduceIte]
    by_cases h1 : s.length = 0
    · rw [if_pos h1]; exact evPos (by omega) (evPos (by rw [List.length_nil]; omega) (Ev.now _))
    rw [if_neg h1]; refine evNeg (by omega) ?_
    by_cases h2 : s'.length = 0
    · rw [if_pos h2]; exact evPos (by omega) (Ev.now _)
    rw [if_neg h2]; refine evNeg (by omega) ?_
    by_cases h3 : s.length = s'.length
    · rw [if_pos h3]; refine evPos (by omega) (Ev.bind (slices_Equal_ev s s' (by omega)) ?_)
      by_cases h4 : s = s'
      · rw [if_pos h4]; exact evPos (decide_eq_true h4) (Ev.now _)
      · rw [if_neg h4]; exact evNeg (by simpa using h4) (Ev.now _)
    · rw [if_neg h3]; exact evNeg (by omega) (Ev.now _)
theorem impl_Fit_ev (s d s' d' : List Int) (hs : s.length ≤ 1048576) (hd : d.length ≤ 1048576) (hs' : s'.length ≤ 1048576) (hd' : d'.length ≤ 1048576) : Ev (fun k => impl_Fit.f k s d s' d') (fit s d s' d') := by
  unfold impl_Fit.f fit
  simp only [Option.bind_some, List.length_nil, List.nil_append, Nat.zero_add]
  refine evPos (by omega) (Ev.bind (impl_ArrayOk_ev s d hd) ?_)
  by_cases h1 : arrayOk s d = true
  · refine evPos h1 (Ev.bind (impl_ArrayOk_ev s' d' hd') ?_)
    refine evEq (impl_Fit_j0 s d s' d' _ hs hs') ?_
    by_cases h2 : arrayOk s' d' = true
    · rw [if_neg (by rw [h2]; simp), if_pos (And.intro h1 h2)]
    · rw [if_pos (by simp [h2]), if_neg (fun h : _ ∧ _ => h2 h.2)]
  · refine evNeg h1 (evEq (impl_Fit_j0 s d s' d' true hs hs') ?_)
    rw [if_pos rfl, if_neg (fun h : _ ∧ _ => h1 h.1)]

theorem hs_step (b : ByteArray) (s : Int) (i : Nat) (v : Int) (r : Bool) (hi : i < b.size) (hn : i < 100) (hv : bt b i = v) (e : Ev (fun k => impl_hasSign.l0 k b s ((i + 1 : Nat) : Int)) r) : Ev (fun k => impl_hasSign.l0 k b s (i : Int)) (decide (s = v) || r) := by
  have hr := bt_range b i
  by_cases h : v = s
  · refine Ev.step (f := fun _ => some true) (fun k => ?_) (evSome (by simp [h]))
    simp only [impl_hasSign.l0]
    rw [if_pos (by omega), if_pos (by omega), if_pos (by rw [w64 (by omega) (by omega), hv, h])]
  · refine Ev.step (f := fun k => impl_hasSign.l0 k b s ((i + 1 : Nat) : Int)) (fun k => ?_) (evEq e (by rw [decide_eq_false (fun hh => h hh.symm), Bool.false_or]))
    simp only [impl_hasSign.l0]
    rw [if_pos (by omega), if_pos (by omega), if_neg (by rw [w64 (by omega) (by omega), hv]; exact h), w64s i (by omega)]
theorem hs_end (b : ByteArray) (s : Int) (i : Nat) (hi : b.size = i) : Ev (fun k => impl_hasSign.l0 k b s (i : Int)) false := by
  refine Ev.step (f := fun _ => some false) (fun k => ?_) (Ev.now _)
  simp only [impl_hasSign.l0]
  rw [if_neg (by omega)]

theorem impl_twoSign_ev (s : Int) : Ev (fun k => impl_twoSign.f k s) (sign2 s) := by
  unfold impl_twoSign.f impl_hasSign.f
  refine Ev.bind (a := sign2 s) ?_ (Ev.now _)
  refine evEq (hs_step _ s 0 43 _ (by decide) (by decide) (by decide) (hs_step _ s 1 45 _ (by decide) (by decide) (by decide) (hs_step _ s 2 42 _ (by decide) (by decide) (by decide) (hs_step _ s 3 37 _ (by decide) (by decide) (by decide) (hs_step _ s 4 124 _ (by decide) (by decide) (by decide) (hs_step _ s 5 38 _ (by decide) (by decide) (by decide) (hs_step _ s 6 94 _ (by decide) (by decide) (by decide) (hs_step _ s 7 61 _ (by decide) (by decide) (by decide) (hs_step _ s 8 60 _ (by decide) (by decide) (by decide) (hs_step _ s 9 62 _ (by decide) (by decide) (by decide) (hs_end _ s 10 (by decide)))))))))))) ?_
  unfold sign2; rw [Bool.eq_iff_iff]; simp

theorem impl_truth_eq (b : Bool) : impl_truth.f b = some (tru b) := by cases b <;> rfl

theorem impl_floor_eq (a b : Int) (hb : b ≠ 0) (h : -1000000000000 ≤ a ∧ a ≤ 1000000000000) : impl_floor.f a b = some (Int.fdiv a b) := floor_is a b hb h
theorem impl_product_eq (a b : Int) (ha : -1000000000000 ≤ a ∧ a ≤ 1000000000000) (hb : -1000000000000 ≤ b ∧ b ≤ 1000000000000) : ∃ y, impl_product.f a b = some (y, okN (a * b)) ∧ (okN (a * b) = true → y = a * b) := by
  unfold impl_product.f
  by_cases h0 : a = 0
  · subst h0
    rw [if_pos rfl]
    exact ⟨0, by rw [Int.zero_mul, w64 (by decide) (by decide)]; rfl, fun _ => by rw [Int.zero_mul]⟩
  · have e1 : mx a (wrap64 (-a)) = ab a := by rw [w64 (by omega) (by omega)]; unfold mx ab; split <;> split <;> omega
    have e2 : mx b (wrap64 (-b)) = ab b := by rw [w64 (by omega) (by omega)]; unfold mx ab; split <;> split <;> omega
    have h1 : 0 < ab a := by unfold ab; split <;> omega
    have h2 : 0 ≤ 1000000000000 / ab a := Int.ediv_nonneg (by decide) (by omega)
    have h3 : 1000000000000 / ab a ≤ 1000000000000 := Int.ediv_le_self _ (by decide)
    rw [if_neg h0, e1, e2, if_neg (by omega), Int.tdiv_eq_ediv_of_nonneg (by decide), w64 (x := 1000000000000 / ab a) (by omega) (by omega), okN_prod h0]
    by_cases h4 : ab b > 1000000000000 / ab a
    · rw [if_pos h4]; exact ⟨0, by simp [h4], fun h => by simp [h4] at h⟩
    · rw [if_neg h4]
      have h5 : okN (a * b) = true := by rw [okN_prod h0]; simp [h4]
      have h6 := okN_t h5
      exact ⟨a * b, by rw [w64 (by omega) (by omega)]; simp [h4], fun _ => rfl⟩
theorem impl_lim (x : Int) : (impl_NumOk.f x).bind (fun t => if t = true then some (x, (0 : Int)) else some (0, 6)) = some (lim x) := by
  rw [impl_NumOk_eq]; simp only [Option.bind_some, lim]; split <;> rfl
theorem impl_Two_ev (s a b : Int) : Ev (fun k => impl_Two.f k s a b) (two s a b) := by
  unfold impl_Two.f
  refine Ev.bind (impl_twoSign_ev s) ?_
  have hbad : ¬ (sign2 s = true ∧ okN a = true ∧ okN b = true) → Ev (fun k => impl_Two.j0 k s a b true) (two s a b) := by
    intro h
    unfold two; rw [if_neg h]
    refine Ev.step (f := fun _ => some (0, 1)) (fun k => ?_) (Ev.now _)
    rw [impl_Two.j0]; exact if_pos rfl
  by_cases hs : sign2 s = true
  · refine evPos hs (evBind0 (impl_NumOk_eq a) ?_)
    by_cases ha : okN a = true
    · refine evPos ha (evBind0 (impl_NumOk_eq b) ?_)
      by_cases hb : okN b = true
      · unfold two
        rw [if_pos ⟨hs, ha, hb⟩, hb]
        have ha' := okN_t ha
        have hb' := okN_t hb
        refine Ev.step (f := fun _ => some _) (fun k => ?_) (Ev.now _)
        obtain ⟨y, hy, hy2⟩ := impl_product_eq a b ha' hb'
        simp only [impl_Two.j0]
        rw [if_neg (by simp), w64 (x := a + b) (by omega) (by omega), w64 (x := a - b) (by omega) (by omega)]
        rw [hy]
        by_cases h : s = 43
        · simp only [if_pos h]; exact impl_lim _
        · simp only [if_neg h]; clear h
          by_cases h : s = 45
          · simp only [if_pos h]; exact impl_lim _
          · simp only [if_neg h]; clear h
            by_cases h : s = 42
            · simp only [if_pos h, Option.bind_some]
              by_cases h2 : okN (a * b) = true
              · rw [if_pos h2, hy2 h2]; exact impl_lim _
              · rw [if_neg h2, lim, if_neg h2]
            · simp only [if_neg h]; clear h
              by_cases h : s = 37
              · simp only [if_pos h]
                by_cases h2 : b = 0
                · rw [if_pos h2, if_pos h2]
                · rw [if_neg h2, if_neg h2, impl_floor_eq a b h2 ha']; exact impl_lim _
              · simp only [if_neg h]; clear h
                by_cases h : s = 124
                · simp only [if_pos h]
                  by_cases h2 : a = 0
                  · rw [if_pos h2, if_pos h2]; exact impl_lim _
                  · rw [if_neg h2, if_neg h2, impl_floor_eq b a h2 hb']
                    have h3 := fmod_le (b := b) ha' h2
                    have h4 := Int.fmod_def b a
                    rw [Option.bind_some, w64 (x := a * Int.fdiv b a) (by omega) (by omega), ← h4, w64 (by omega) (by omega)]
                    exact impl_lim _
                · simp only [if_neg h]; clear h
                  by_cases h : s = 38
                  · simp only [if_pos h]; exact impl_lim _
                  · simp only [if_neg h]; clear h
                    by_cases h : s = 94
                    · simp only [if_pos h]; exact impl_lim _
                    · simp only [if_neg h]; clear h
                      by_cases h : s = 61
                      · simp only [if_pos h, impl_truth_eq, Option.bind_some]; exact impl_lim _
                      · simp only [if_neg h]; clear h
                        by_cases h : s = 60
                        · simp only [if_pos h, impl_truth_eq, Option.bind_some]; exact impl_lim _
                        · simp only [if_neg h, impl_truth_eq, Option.bind_some]; exact impl_lim _
      · rw [Bool.eq_false_iff.2 hb]; exact hbad (fun h => hb h.2.2)
    · exact evNeg ha (hbad (fun h => ha h.2.1))
  · exact evNeg hs (hbad (fun h => hs h.1))

theorem impl_at_eq (s d : List Int) (i : Nat) (h0 : s.length = 0 → 0 < d.length) (h1 : s.length ≠ 0 → i < d.length) : impl_at.f s d (i : Int) = some (atA s d i) := by
  unfold impl_at.f atA
  by_cases h : s.length = 0
  · rw [if_pos (by omega), if_pos (by have := h0 h; omega), if_pos h]
  · rw [if_neg (by omega), if_pos (by omega), if_pos (by have := h1 h; omega), if_neg h]
theorem impl_EachTwo_l0 (s : Int) (a b c d sh : List Int) (N : Nat) (hz : szOf sh = (N : Int)) (h3 : N ≤ 300) (hi : ∀ i, i < N → ((a.length = 0 → 0 < b.length) ∧ (a.length ≠ 0 → i < b.length)) ∧ ((c.length = 0 → 0 < d.length) ∧ (c.length ≠ 0 → i < d.length))) (n : Nat) : ∀ (i : Nat) (o : List Int), i + n = N → o.length = i → Ev (fun k => impl_EachTwo.l0 k s sh (i : Int) a b c d sh o) (if (mapN (fun i => two s (atA a b i) (atA c d i)) n i).2 = 0 then (sh, o ++ (mapN (fun i => two s (atA a b i) (atA c d i)) n i).1, 0) else ([], [], (mapN (fun i => two s (atA a b i) (atA c d i)) n i).2)) := by
  induction n with
  | zero =>
    intro i o h1 ho
    refine Ev.step (fun k => by rw [impl_EachTwo.l0]) ?_
    refine Ev.bind (impl_SizeOf_ev sh) (evNeg (by omega) (evSome ?_))
    simp [mapN]
  | succ n ih =>
    intro i o h1 ho
    have hii := hi i (by omega)
    refine Ev.step (fun k => by rw [impl_EachTwo.l0]) ?_
    refine Ev.bind (impl_SizeOf_ev sh) (evPos (by omega) ?_)
    refine evBind0 (impl_at_eq a b i hii.1.1 hii.1.2) (evBind0 (impl_at_eq c d i hii.2.1 hii.2.2) (Ev.bind (impl_Two_ev s (atA a b i) (atA c d i)) ?_))
    rw [w64s i (by omega)]
    have ih' := ih (i + 1) (o ++ [(two s (atA a b i) (atA c d i)).1]) (by omega) (by simp [ho])
    by_cases h : (two s (atA a b i) (atA c d i)).2 = 0
    · refine evPos h (evPos (by omega) (evEq ih' ?_))
      rw [mapN]
      simp only [if_pos h]
      by_cases h2 : (mapN (fun i => two s (atA a b i) (atA c d i)) n (i + 1)).2 = 0
      · simp only [if_pos h2, List.append_assoc, List.singleton_append]; rfl
      · simp only [if_neg h2]
    · refine evNeg h (evSome ?_)
      rw [mapN]
      simp only [if_neg h]
theorem impl_EachTwo_ev (s : Int) (a b c d : List Int) (ha : a.length ≤ 1048576) (hb : b.length ≤ 1048576) (hc : c.length ≤ 1048576) (hd : d.length ≤ 1048576) : Ev (fun k => impl_EachTwo.f k s a b c d) (eachTwo s a b c d) := by
  unfold impl_EachTwo.f eachTwo
  refine Ev.bind (impl_Fit_ev a b c d ha hb hc hd) ?_
  have hbad : ∀ x y, Ev (fun k => impl_EachTwo.j0 k s x y true a b c d) ([], [], 1) := fun x y => Ev.step (fun k => by rw [impl_EachTwo.j0]) (evPos rfl (Ev.now _))
  by_cases h : arrayOk a b = true ∧ arrayOk c d = true
  · have h1 : ¬ (fit a b c d).2 = 1 := by
      unfold fit
      rw [if_pos h]
      repeat' split
      all_goals simp
    refine evNeg h1 (Ev.bind (impl_twoSign_ev s) ?_)
    by_cases h2 : sign2 s = true
    · rw [h2]
      refine evEq ?_ (if_pos (And.intro h rfl)).symm
      refine Ev.step (fun k => by rw [impl_EachTwo.j0]) (evNeg (by simp) ?_)
      by_cases h3 : (fit a b c d).2 = 0
      · obtain ⟨N, hz, hN, hi⟩ := fit_at h.1 h.2 h3
        refine evEq (evPos h3 ?_) (if_pos h3).symm
        have e : (szOf (fit a b c d).1).toNat = N := by omega
        rw [e]
        exact evEq (impl_EachTwo_l0 s a b c d (fit a b c d).1 N hz hN hi N 0 [] (by omega) rfl) (by rw [List.nil_append])
      · exact evEq (evNeg h3 (Ev.now _)) (if_neg h3).symm
    · rw [Bool.eq_false_iff.2 h2]
      exact evEq (hbad _ _) (if_neg (fun hh : _ ∧ _ => absurd hh.2 (by simp))).symm
  · have h1 : (fit a b c d).2 = 1 := by unfold fit; rw [if_neg h]
    exact evEq (evPos h1 (hbad _ _)) (if_neg (fun hh : _ ∧ _ => h hh.1)).symm

theorem spec_l1In_eq (a b c : Int) : spec_l1In.f a b c = some (decide (b ≤ a ∧ a ≤ c)) := by
  unfold spec_l1In.f
  by_cases h : a ≥ b
  · rw [if_pos h]; congr 1; rw [Bool.eq_iff_iff, decide_eq_true_iff, decide_eq_true_iff]; omega
  · rw [if_neg h]; congr 1; symm; rw [decide_eq_false_iff_not]; omega

theorem spec_SizeOf_l1 (l : List Int) (hl : ¬ 3 < l.length) (z : Bool) (hr : inR l = true) (hz : z = true → prod l = 0) (d : Nat) : ∀ (i : Nat), i + d = l.length → Ev (fun k => spec_SizeOf.l1 k l z (prod (l.take i)) (i : Int)) (if prod l > 300 then -1 else prod l) := by
  induction d with
  | zero =>
    intro i hi
    have e : l.take i = l := List.take_of_length_le (by omega)
    rw [e]
    refine Ev.step (f := fun _ => some (if prod l > 300 then -1 else prod l)) (fun k => ?_) (Ev.now _)
    simp only [spec_SizeOf.l1]; rw [if_neg (by omega)]
    by_cases h : prod l > 300
    · rw [if_pos h, if_pos h]
      rw [if_neg (by intro hh; have := hz hh; omega)]
    · rw [if_neg h, if_neg h]
  | succ d ih =>
    intro i hi
    have hlt : i < l.length := by omega
    have hr' := inR_take (i + 1) hr
    refine Ev.step (f := fun k => spec_SizeOf.l1 k l z (prod (l.take (i + 1))) ((i + 1 : Nat) : Int)) (fun k => ?_) (ih (i + 1) (by omega))
    simp only [spec_SizeOf.l1]
    have hp := prod_take_le l (i + 1) hl hr'
    rw [if_pos (by omega), if_pos (by omega), rdn l i hlt, w64s i (by omega), ← prod_take_succ l i hlt, w64 (by omega) (by omega)]
theorem prod_zero (l : List Int) (h : l.any (· == 0) = true) : prod l = 0 := by
  induction l with
  | nil => simp at h
  | cons a l ih =>
    rw [List.any_cons, Bool.or_eq_true] at h
    rcases h with h | h
    · have : a = 0 := by simpa using h
      rw [prod, this, Int.zero_mul]
    · rw [prod, ih h, Int.mul_zero]
theorem spec_SizeOf_l0 (l : List Int) (hl : ¬ 3 < l.length) (d : Nat) : ∀ (i : Nat) (z : Bool), i + d = l.length → inR (l.take i) = true → z = (l.take i).any (· == 0) → Ev (fun k => spec_SizeOf.l0 k l z (i : Int)) (if inR l = true then (if prod l > 300 then -1 else prod l) else -1) := by
  induction d with
  | zero =>
    intro i z hi hr hz
    have e : l.take i = l := List.take_of_length_le (by omega)
    rw [e] at hr hz
    rw [if_pos hr]
    refine Ev.step (f := fun k => spec_SizeOf.l1 k l z 1 0) (fun k => ?_) ?_
    · simp only [spec_SizeOf.l0]; rw [if_neg (by omega)]
    · exact spec_SizeOf_l1 l hl z hr (fun h => prod_zero l (by rw [← hz]; exact h)) l.length 0 (by omega)
  | succ d ih =>
    intro i z hi hr hz
    have hlt : i < l.length := by omega
    by_cases hx : 0 ≤ l[i] ∧ l[i] ≤ 300
    · have hr' := (inR_take_succ l i hlt).2 ⟨hr, hx⟩
      refine Ev.step (f := fun k => spec_SizeOf.l0 k l ((l.take (i + 1)).any (· == 0)) ((i + 1 : Nat) : Int)) (fun k => ?_) (ih (i + 1) _ (by omega) hr' rfl)
      simp only [spec_SizeOf.l0]
      rw [if_pos (by omega), if_pos (by omega), spec_l1In_eq, rdn l i hlt, decide_eq_true hx]
      simp only [Option.bind_some, if_true]
      rw [w64s i (by omega), List.take_succ_eq_append_getElem hlt, List.any_append, ← hz]
      cases z with
      | true => simp
      | false => simp
    · rw [if_neg (by rw [inR_not i hlt hx]; simp)]
      refine Ev.step (f := fun _ => some (-1)) (fun k => ?_) (Ev.now _)
      simp only [spec_SizeOf.l0]
      rw [if_pos (by omega), if_pos (by omega), spec_l1In_eq, rdn l i hlt, decide_eq_false hx]
      rfl
theorem spec_SizeOf_ev (l : List Int) : Ev (fun k => spec_SizeOf.f k l) (szOf l) := by
  unfold spec_SizeOf.f szOf
  by_cases h : 3 < l.length
  · rw [if_pos h]; exact evPos (by omega) (Ev.now _)
  · rw [if_neg h]
    refine evNeg (by omega) ?_
    exact spec_SizeOf_l0 l h l.length 0 false (by omega) (by simp [inR]) (by simp)

theorem spec_NumOk_eq (a : Int) : spec_NumOk.f a = some (okN a) := by
  unfold spec_NumOk.f; rw [spec_l1In_eq]; rfl

theorem spec_ArrayOk_l0 (s l : List Int) (hl : l.length ≤ 1048576) (d : Nat) : ∀ (i : Nat), i + d = l.length → (l.take i).all okN = true → Ev (fun k => spec_ArrayOk.l0 k (i : Int) s l) (l.all okN) := by
  induction d with
  | zero =>
    intro i hi ht
    refine Ev.step (f := fun _ => some true) (fun k => ?_) (evSome ?_)
    · simp only [spec_ArrayOk.l0]; rw [if_neg (by omega)]
    · rw [List.take_of_length_le (by omega)] at ht; exact ht.symm
  | succ d ih =>
    intro i hi ht
    have hlt : i < l.length := by omega
    by_cases hx : okN l[i] = true
    · refine Ev.step (f := fun k => spec_ArrayOk.l0 k ((i + 1 : Nat) : Int) s l) (fun k => ?_) (ih (i + 1) (by omega) (by rw [List.take_succ_eq_append_getElem hlt, List.all_append, ht]; simp [hx]))
      simp only [spec_ArrayOk.l0]
      rw [if_pos (by omega), if_pos (by omega), spec_NumOk_eq, rdn l i hlt]; simp only [Option.bind_some]; rw [if_pos hx, w64s i (by omega)]
    · refine Ev.step (f := fun _ => some false) (fun k => ?_) (evSome ?_)
      · simp only [spec_ArrayOk.l0]
        rw [if_pos (by omega), if_pos (by omega), spec_NumOk_eq, rdn l i hlt]; simp only [Option.bind_some]; rw [if_neg hx]
      · symm; rw [List.all_eq_false]; exact ⟨_, List.getElem_mem hlt, hx⟩
theorem spec_ArrayOk_ev (s d : List Int) (hd : d.length ≤ 1048576) : Ev (fun k => spec_ArrayOk.f k s d) (arrayOk s d) := by
  unfold spec_ArrayOk.f arrayOk
  refine Ev.bind (spec_SizeOf_ev s) ?_
  by_cases h : szOf s = (d.length : Int)
  · refine evPos h (evEq (spec_ArrayOk_l0 s d hd d.length 0 (by omega) (by simp)) ?_)
    rw [decide_eq_true h.symm]; rfl
  · exact evNeg h (evSome (by rw [decide_eq_false (fun e => h e.symm)]; rfl))

theorem spec_l2Same_l0 (l m : List Int) (hl : l.length ≤ 35184372088832) (hm : l.length = m.length) (d : Nat) : ∀ (i : Nat), i + d = l.length → Ev (fun k => spec_l2Same.l0 k l m (i : Int)) (decide (l.drop i = m.drop i)) := by
  induction d with
  | zero =>
    intro i hi
    refine Ev.step (f := fun _ => some (decide (l.drop i = m.drop i))) (fun k => ?_) (Ev.now _)
    simp only [spec_l2Same.l0]
    rw [if_neg (by omega), List.drop_of_length_le (by omega), List.drop_of_length_le (by omega)]; simp
  | succ d ih =>
    intro i hi
    have hlt : i < l.length := by omega
    have hlt' : i < m.length := by omega
    have e1 := List.drop_eq_getElem_cons hlt
    have e2 := List.drop_eq_getElem_cons hlt'
    by_cases hx : l[i] = m[i]
    · refine Ev.step (f := fun k => spec_l2Same.l0 k l m ((i + 1 : Nat) : Int)) (fun k => ?_) (evEq (ih (i + 1) (by omega)) ?_)
      · simp only [spec_l2Same.l0]
        rw [if_pos (by omega), if_pos (by omega), if_pos (by omega), rdn l i hlt, rdn m i hlt', if_pos hx, w64s i (by omega)]
      · rw [e1, e2, hx]; simp only [List.cons.injEq, true_and]
    · refine Ev.step (f := fun _ => some false) (fun k => ?_) (evSome ?_)
      · simp only [spec_l2Same.l0]
        rw [if_pos (by omega), if_pos (by omega), if_pos (by omega), rdn l i hlt, rdn m i hlt', if_neg hx]
      · rw [e1, e2]; symm; rw [decide_eq_false_iff_not]; intro h; exact hx (List.cons.inj h).1
theorem spec_l2Same_ev (l m : List Int) (hl : l.length ≤ 35184372088832) : Ev (fun k => spec_l2Same.f k l m) (decide (l = m)) := by
  unfold spec_l2Same.f
  by_cases h : l.length = m.length
  · refine evPos (by omega) ?_
    exact spec_l2Same_l0 l m hl h l.length 0 (by omega)
  · refine evNeg (by omega) (evSome ?_)
    symm; rw [decide_eq_false_iff_not]; intro e; exact h (by rw [e])
theorem spec_Fit_j0 (s d s' d' : List Int) (b : Bool) (hs : s.length ≤ 1048576) (hs' : s'.length ≤ 1048576) : Ev (fun k => spec_Fit.j0 k b s d s' d') (if b = true then ([], 1) else (if s.length = 0 then (s', 0) else if s'.length = 0 then (s, 0) else if s.length = s'.length then (if s = s' then (s, 0) else ([], 3)) else ([], 4))) := by
  refine Ev.step (fun k => by rw [spec_Fit.j0]) ?_
  simp only [Option.bind_some, List.length_nil, List.nil_append, Nat.zero_add]
  cases b with
  | true => exact evPos rfl (Ev.now _)
  | false =>
    simp only [Bool.false_eq_true, ↓reduceIte]
    by_cases h1 : s.length = 0
    · rw [if_pos h1]; exact evPos (by omega) (evPos (by omega) (Ev.now _))
    rw [if_neg h1]; refine evNeg (by omega) ?_
    by_cases h2 : s'.length = 0
    · rw [if_pos h2]; exact evPos (by omega) (evPos (by omega) (Ev.now _))
    rw [if_neg h2]; refine evNeg (by omega) ?_
    by_cases h3 : s.length = s'.length
    · rw [if_pos h3]; refine evPos (by omega) (Ev.bind (spec_l2Same_ev s s' (by omega)) ?_)
      by_cases h4 : s = s'
      · rw [if_pos h4]; exact evPos (decide_eq_true h4) (evPos (by omega) (Ev.now _))
      · rw [if_neg h4]; exact evNeg (by simpa using h4) (Ev.now _)
    · rw [if_neg h3]; exact evNeg (by omega) (Ev.now _)
theorem spec_Fit_ev (s d s' d' : List Int) (hs : s.length ≤ 1048576) (hd : d.length ≤ 1048576) (hs' : s'.length ≤ 1048576) (hd' : d'.length ≤ 1048576) : Ev (fun k => spec_Fit.f k s d s' d') (fit s d s' d') := by
  unfold spec_Fit.f fit
  refine Ev.bind (spec_ArrayOk_ev s d hd) ?_
  by_cases h1 : arrayOk s d = true
  · refine evPos h1 (Ev.bind (spec_ArrayOk_ev s' d' hd') ?_)
    refine evEq (spec_Fit_j0 s d s' d' _ hs hs') ?_
    by_cases h2 : arrayOk s' d' = true
    · rw [if_neg (by rw [h2]; simp), if_pos (And.intro h1 h2)]
    · rw [if_pos (by simp [h2]), if_neg (fun h : _ ∧ _ => h2 h.2)]
  · refine evNeg h1 (evEq (spec_Fit_j0 s d s' d' true hs hs') ?_)
    rw [if_pos rfl, if_neg (fun h : _ ∧ _ => h1 h.1)]

theorem spec_l1Sign2_eq (s : Int) : spec_l1Sign2.f s = some (sign2 s) := by
  unfold spec_l1Sign2.f sign2
  repeat (split; · simp_all)
  congr 1; rw [Bool.eq_iff_iff]; simp_all

theorem spec_l1Bit_eq (b : Bool) : spec_l1Bit.f b = some (tru b) := by cases b <;> rfl

theorem spec_l1MaxT_eq (a b : Int) : spec_l1Max.f a b = some (if a < b then b else a) := by unfold spec_l1Max.f; split <;> split <;> first | rfl | omega | (congr 1; omega)
theorem spec_l1Min_eq (a b : Int) : spec_l1Min.f a b = some (if b < a then b else a) := by unfold spec_l1Min.f; split <;> split <;> first | rfl | omega | (congr 1; omega)
theorem spec_l1Floor_eq (a b : Int) (hb : b ≠ 0) (h : -1000000000000 ≤ a ∧ a ≤ 1000000000000) : spec_l1Floor.f a b = some (Int.fdiv a b) := floor_is a b hb h
theorem spec_l1Times_ev (a b : Int) (ha : -1000000000000 ≤ a ∧ a ≤ 1000000000000) (hb : -1000000000000 ≤ b ∧ b ≤ 1000000000000) : ∃ y, Ev (fun k => spec_l1Times.f k a b) (y, okN (a * b)) ∧ (okN (a * b) = true → y = a * b) := by
  unfold spec_l1Times.f
  have hz : a * b = 0 → ∀ c, c = true → Ev (fun k => spec_l1Times.j0 k a b c) (0, true) := by
    intro _ c hc
    refine Ev.step (f := fun _ => some (0, true)) (fun k => ?_) (Ev.now _)
    simp only [spec_l1Times.j0]; rw [if_pos hc]
  by_cases h0 : a = 0
  · have e : a * b = 0 := by rw [h0, Int.zero_mul]
    rw [e]
    exact ⟨0, evPos h0 (hz e _ rfl), fun _ => rfl⟩
  · by_cases h1 : b = 0
    · have e : a * b = 0 := by rw [h1, Int.mul_zero]
      rw [e]
      exact ⟨0, evNeg h0 (hz e _ (by simp [h1])), fun _ => rfl⟩
    · have e1 : spec_l1Max.f a (wrap64 (-a)) = some (ab a) := by rw [w64 (by omega) (by omega), spec_l1MaxT_eq]; congr 1; unfold ab; split <;> split <;> omega
      have e2 : spec_l1Max.f b (wrap64 (-b)) = some (ab b) := by rw [w64 (by omega) (by omega), spec_l1MaxT_eq]; congr 1; unfold ab; split <;> split <;> omega
      have h2 : 0 < ab b := by unfold ab; split <;> omega
      have h3 : 0 ≤ 1000000000000 / ab b := Int.ediv_nonneg (by decide) (by omega)
      have h4 : 1000000000000 / ab b ≤ 1000000000000 := Int.ediv_le_self _ (by decide)
      have h5 : okN (a * b) = !decide (ab a > 1000000000000 / ab b) := by rw [Int.mul_comm]; exact okN_prod h1
      by_cases h6 : ab a > 1000000000000 / ab b
      · refine ⟨0, evNeg h0 (Ev.step (f := fun _ => some (0, false)) (fun k => ?_) (evSome (by rw [h5]; simp [h6]))), fun h => by rw [h5] at h; simp [h6] at h⟩
        simp only [spec_l1Times.j0]
        rw [if_neg (by simp [h1]), e1, e2]; simp only [Option.bind_some]
        rw [if_neg (by omega), Int.tdiv_eq_ediv_of_nonneg (by decide), w64 (x := 1000000000000 / ab b) (by omega) (by omega), if_pos h6]
      · have h7 : okN (a * b) = true := by rw [h5]; simp [h6]
        have h8 := okN_t h7
        refine ⟨a * b, evNeg h0 (Ev.step (f := fun _ => some (a * b, true)) (fun k => ?_) (evSome (by rw [h7]))), fun _ => rfl⟩
        simp only [spec_l1Times.j0]
        rw [if_neg (by simp [h1]), e1, e2]; simp only [Option.bind_some]
        rw [if_neg (by omega), Int.tdiv_eq_ediv_of_nonneg (by decide), w64 (x := 1000000000000 / ab b) (by omega) (by omega), if_neg h6, w64 (x := a * b) (by omega) (by omega)]
theorem spec_lim (x : Int) : (spec_NumOk.f x).bind (fun t => if t = true then some (x, (0 : Int)) else some (0, 6)) = some (lim x) := by
  rw [spec_NumOk_eq]; simp only [Option.bind_some, lim]; split <;> rfl
theorem spec_Two_ev (s a b : Int) : Ev (fun k => spec_Two.f k s a b) (two s a b) := by
  unfold spec_Two.f
  refine evBind0 (spec_l1Sign2_eq s) ?_
  have hbad : ¬ (sign2 s = true ∧ okN a = true ∧ okN b = true) → Ev (fun k => spec_Two.j0 k s a b true) (two s a b) := by
    intro h
    unfold two; rw [if_neg h]
    refine Ev.step (f := fun _ => some (0, 1)) (fun k => ?_) (Ev.now _)
    rw [spec_Two.j0]; exact if_pos rfl
  by_cases hs : sign2 s = true
  · refine evPos hs (evBind0 (spec_NumOk_eq a) ?_)
    by_cases ha : okN a = true
    · refine evPos ha (evBind0 (spec_NumOk_eq b) ?_)
      by_cases hb : okN b = true
      · unfold two
        rw [if_pos ⟨hs, ha, hb⟩, hb]
        have ha' := okN_t ha
        have hb' := okN_t hb
        obtain ⟨y, hy, hy2⟩ := spec_l1Times_ev a b ha' hb'
        refine Ev.step (g := fun k => spec_Two.j0 k s a b (!true)) (fun k => by simp only [spec_Two.j0]; rfl) ?_
        refine evNeg (by simp) ?_
        rw [w64 (x := a + b) (by omega) (by omega), w64 (x := a - b) (by omega) (by omega)]
        by_cases h : s = 43
        · refine evPos h ?_; rw [if_pos h]; exact evSomeEq (spec_lim _)
        · refine evNeg h ?_; rw [if_neg h]
          by_cases h : s = 45
          · refine evPos h ?_; rw [if_pos h]; exact evSomeEq (spec_lim _)
          · refine evNeg h ?_; rw [if_neg h]
            by_cases h : s = 42
            · refine evPos h ?_; rw [if_pos h]
              refine Ev.bind hy ?_
              by_cases h2 : okN (a * b) = true
              · refine evPos h2 ?_; rw [hy2 h2]; exact evSomeEq (spec_lim _)
              · refine evNeg h2 ?_; rw [lim, if_neg h2]; exact Ev.now _
            · refine evNeg h ?_; rw [if_neg h]
              by_cases h : s = 37
              · refine evPos h ?_; rw [if_pos h]
                by_cases h2 : b = 0
                · refine evPos h2 ?_; rw [if_pos h2]; exact Ev.now _
                · refine evNeg h2 ?_; rw [if_neg h2, spec_l1Floor_eq a b h2 ha']; exact evSomeEq (spec_lim _)
              · refine evNeg h ?_; rw [if_neg h]
                by_cases h : s = 124
                · refine evPos h ?_; rw [if_pos h]
                  by_cases h2 : a = 0
                  · refine evPos h2 ?_; rw [if_pos h2]; exact evSomeEq (spec_lim _)
                  · refine evNeg h2 ?_; rw [if_neg h2, spec_l1Floor_eq b a h2 hb']
                    have h3 := fmod_le (b := b) ha' h2
                    have h4 := Int.fmod_def b a
                    rw [Option.bind_some, w64 (x := a * Int.fdiv b a) (by omega) (by omega), ← h4, w64 (by omega) (by omega)]
                    exact evSomeEq (spec_lim _)
                · refine evNeg h ?_; rw [if_neg h]
                  by_cases h : s = 38
                  · refine evPos h ?_; rw [if_pos h, spec_l1Min_eq]; exact evSomeEq (spec_lim _)
                  · refine evNeg h ?_; rw [if_neg h]
                    by_cases h : s = 94
                    · refine evPos h ?_; rw [if_pos h, spec_l1MaxT_eq]; exact evSomeEq (spec_lim _)
                    · refine evNeg h ?_; rw [if_neg h]
                      by_cases h : s = 61
                      · refine evPos h ?_; rw [if_pos h, spec_l1Bit_eq]; exact evSomeEq (spec_lim _)
                      · refine evNeg h ?_; rw [if_neg h]
                        by_cases h : s = 60
                        · refine evPos h ?_; rw [if_pos h, spec_l1Bit_eq]; exact evSomeEq (spec_lim _)
                        · refine evNeg h ?_; rw [if_neg h]
                          have h62 : s = 62 := by
                            have hq : s = 43 ∨ s = 45 ∨ s = 42 ∨ s = 37 ∨ s = 124 ∨ s = 38 ∨ s = 94 ∨ s = 61 ∨ s = 60 ∨ s = 62 := of_decide_eq_true hs
                            omega
                          refine evPos h62 ?_; rw [spec_l1Bit_eq]; exact evSomeEq (spec_lim _)
      · rw [Bool.eq_false_iff.2 hb]; exact hbad (fun h => hb h.2.2)
    · exact evNeg ha (hbad (fun h => ha h.2.1))
  · exact evNeg hs (hbad (fun h => hs h.1))

theorem spec_l4Of_eq (s d : List Int) (i : Nat) (h0 : s.length = 0 → 0 < d.length) (h1 : s.length ≠ 0 → i < d.length) : spec_l4Of.f s d (i : Int) = some (atA s d i) := by
  unfold spec_l4Of.f atA
  by_cases h : s.length = 0
  · rw [if_pos (by omega), if_pos (by have := h0 h; omega), if_pos h]
  · rw [if_neg (by omega), if_pos (by omega), if_pos (by have := h1 h; omega), if_neg h]
theorem spec_EachTwo_l0 (s : Int) (a b c d sh : List Int) (N : Nat) (hz : szOf sh = (N : Int)) (h3 : N ≤ 300) (hi : ∀ i, i < N → ((a.length = 0 → 0 < b.length) ∧ (a.length ≠ 0 → i < b.length)) ∧ ((c.length = 0 → 0 < d.length) ∧ (c.length ≠ 0 → i < d.length))) (n : Nat) : ∀ (i : Nat) (o : List Int), i + n = N → o.length = i → Ev (fun k => spec_EachTwo.l0 k s sh (i : Int) a b c d sh o) (if (mapN (fun i => two s (atA a b i) (atA c d i)) n i).2 = 0 then (sh, o ++ (mapN (fun i => two s (atA a b i) (atA c d i)) n i).1, 0) else ([], [], (mapN (fun i => two s (atA a b i) (atA c d i)) n i).2)) := by
  induction n with
  | zero =>
    intro i o h1 ho
    refine Ev.step (fun k => by rw [spec_EachTwo.l0]) ?_
    refine Ev.bind (spec_SizeOf_ev sh) (evNeg (by omega) (evSome ?_))
    simp [mapN]
  | succ n ih =>
    intro i o h1 ho
    have hii := hi i (by omega)
    refine Ev.step (fun k => by rw [spec_EachTwo.l0]) ?_
    refine Ev.bind (spec_SizeOf_ev sh) (evPos (by omega) ?_)
    refine evBind0 (spec_l4Of_eq a b i hii.1.1 hii.1.2) (evBind0 (spec_l4Of_eq c d i hii.2.1 hii.2.2) (Ev.bind (spec_Two_ev s (atA a b i) (atA c d i)) ?_))
    rw [w64s i (by omega)]
    have ih' := ih (i + 1) (o ++ [(two s (atA a b i) (atA c d i)).1]) (by omega) (by simp [ho])
    by_cases h : (two s (atA a b i) (atA c d i)).2 = 0
    · refine evPos h (evPos (by omega) (evEq ih' ?_))
      rw [mapN]
      simp only [if_pos h]
      by_cases h2 : (mapN (fun i => two s (atA a b i) (atA c d i)) n (i + 1)).2 = 0
      · simp only [if_pos h2, List.append_assoc, List.singleton_append]; rfl
      · simp only [if_neg h2]
    · refine evNeg h (evSome ?_)
      rw [mapN]
      simp only [if_neg h]
theorem spec_EachTwo_ev (s : Int) (a b c d : List Int) (ha : a.length ≤ 1048576) (hb : b.length ≤ 1048576) (hc : c.length ≤ 1048576) (hd : d.length ≤ 1048576) : Ev (fun k => spec_EachTwo.f k s a b c d) (eachTwo s a b c d) := by
  unfold spec_EachTwo.f eachTwo
  have hbad : Ev (fun k => spec_EachTwo.j0 k s true a b c d) ([], [], 1) := Ev.step (fun k => by rw [spec_EachTwo.j0]) (evPos rfl (Ev.now _))
  refine Ev.bind (spec_ArrayOk_ev a b hb) ?_
  by_cases h1 : arrayOk a b = true
  · refine evPos h1 (Ev.bind (spec_ArrayOk_ev c d hd) ?_)
    by_cases h2 : arrayOk c d = true
    · refine evPos h2 (evBind0 (spec_l1Sign2_eq s) ?_)
      by_cases h4 : sign2 s = true
      · rw [h4]
        refine evEq ?_ (if_pos (And.intro (And.intro h1 h2) rfl)).symm
        refine Ev.step (fun k => by rw [spec_EachTwo.j0]) (evNeg (by simp) ?_)
        refine Ev.bind (spec_Fit_ev a b c d ha hb hc hd) ?_
        by_cases h3 : (fit a b c d).2 = 0
        · obtain ⟨N, hz, hN, hi⟩ := fit_at h1 h2 h3
          refine evEq (evPos h3 ?_) (if_pos h3).symm
          have e : (szOf (fit a b c d).1).toNat = N := by omega
          rw [e]
          exact evEq (spec_EachTwo_l0 s a b c d (fit a b c d).1 N hz hN hi N 0 [] (by omega) rfl) (by rw [List.nil_append])
        · exact evEq (evNeg h3 (Ev.now _)) (if_neg h3).symm
      · rw [Bool.eq_false_iff.2 h4]
        exact evEq hbad (if_neg (fun hh : _ ∧ _ => absurd hh.2 (by simp))).symm
    · exact evEq (evNeg h2 hbad) (if_neg (fun hh : _ ∧ _ => h2 hh.1.2)).symm
  · exact evEq (evNeg h1 hbad) (if_neg (fun hh : _ ∧ _ => h1 hh.1.1)).symm

theorem laws_sameInts_l0 (l m : List Int) (hl : l.length ≤ 35184372088832) (hm : l.length = m.length) (d : Nat) : ∀ (i : Nat), i + d = l.length → Ev (fun k => laws_sameInts.l0 k l m (i : Int)) (decide (l.drop i = m.drop i)) := by
  induction d with
  | zero =>
    intro i hi
    refine Ev.step (f := fun _ => some (decide (l.drop i = m.drop i))) (fun k => ?_) (Ev.now _)
    simp only [laws_sameInts.l0]
    rw [if_neg (by omega), List.drop_of_length_le (by omega), List.drop_of_length_le (by omega)]; simp
  | succ d ih =>
    intro i hi
    have hlt : i < l.length := by omega
    have hlt' : i < m.length := by omega
    have e1 := List.drop_eq_getElem_cons hlt
    have e2 := List.drop_eq_getElem_cons hlt'
    by_cases hx : l[i] = m[i]
    · refine Ev.step (f := fun k => laws_sameInts.l0 k l m ((i + 1 : Nat) : Int)) (fun k => ?_) (evEq (ih (i + 1) (by omega)) ?_)
      · simp only [laws_sameInts.l0]
        rw [if_pos (by omega), if_pos (by omega), if_pos (by omega), rdn l i hlt, rdn m i hlt', if_pos hx, w64s i (by omega)]
      · rw [e1, e2, hx]; simp only [List.cons.injEq, true_and]
    · refine Ev.step (f := fun _ => some false) (fun k => ?_) (evSome ?_)
      · simp only [laws_sameInts.l0]
        rw [if_pos (by omega), if_pos (by omega), if_pos (by omega), rdn l i hlt, rdn m i hlt', if_neg hx]
      · rw [e1, e2]; symm; rw [decide_eq_false_iff_not]; intro h; exact hx (List.cons.inj h).1
theorem laws_sameInts_ev (l m : List Int) (hl : l.length ≤ 35184372088832) : Ev (fun k => laws_sameInts.f k l m) (decide (l = m)) := by
  unfold laws_sameInts.f
  by_cases h : l.length = m.length
  · refine evPos (by omega) ?_
    exact laws_sameInts_l0 l m hl h l.length 0 (by omega)
  · refine evNeg (by omega) (evSome ?_)
    symm; rw [decide_eq_false_iff_not]; intro e; exact h (by rw [e])
theorem laws_sameInts_rfl (l : List Int) (hl : l.length ≤ 35184372088832) : Ev (fun k => laws_sameInts.f k l l) true := evEq (laws_sameInts_ev l l hl) (by simp)

theorem laws_big_eq (l : List Int) : laws_big.f l = some (decide ((l.length : Int) > 1048576)) := rfl

theorem and255 (x : Int) : 0 ≤ Go.bits .and .i64 x 255 ∧ Go.bits .and .i64 x 255 ≤ 255 := by
  have h : Go.bits .and .i64 x 255 = IntKind.i64.wrap (((BitVec.ofInt 64 x).toNat &&& 255 : Nat) : Int) := by
    simp only [Go.bits, BitVec.toNat_and]; rfl
  have h2 : (BitVec.ofInt 64 x).toNat &&& 255 ≤ 255 := Nat.and_le_right
  rw [h, IntKind.wrap_i64]; omega
/-- A cursor's place lies in its bytes. -/
def Cu (c : List Int) (i : Int) : Prop := 0 ≤ i ∧ i ≤ c.length
theorem spec_l1Byte_dr (c : List Int) (i h : Int) (hc : Cu c i) (hl : c.length ≤ 1048576) : ∃ x i' h', spec_l1Byte.f c i h = some (x, i', h') ∧ (0 ≤ x ∧ x ≤ 255) ∧ Cu c i' := by
  obtain ⟨h0, h1⟩ := hc
  unfold spec_l1Byte.f
  by_cases h2 : i < (c.length : Int)
  · rw [if_pos h2, if_pos h0, w64 (x := i + 1) (by omega) (by omega)]
    exact ⟨_, _, _, rfl, and255 _, by omega, by omega⟩
  · rw [if_neg h2]
    exact ⟨_, _, _, rfl, and255 _, h0, h1⟩
theorem spec_l1Below_dr (c : List Int) (i h n : Int) (hc : Cu c i) (hl : c.length ≤ 1048576) : ∃ x i' h', spec_l1Below.f c i h n = some (x, i', h') ∧ (0 ≤ x ∧ (x < n ∨ n ≤ 0 ∧ x = 0)) ∧ Cu c i' := by
  unfold spec_l1Below.f
  by_cases h1 : n ≤ 0
  · rw [if_pos h1]; exact ⟨_, _, _, rfl, ⟨by omega, .inr ⟨h1, rfl⟩⟩, hc⟩
  · rw [if_neg h1]
    by_cases h2 : n ≤ 256
    · obtain ⟨x, i', h', e, hx, hc'⟩ := spec_l1Byte_dr c i h hc hl
      rw [if_pos h2, e, Option.bind_some, if_neg (by omega)]
      have h3 := Int.tmod_eq_emod_of_nonneg (b := n) hx.1
      have h4 := Int.emod_nonneg x (show n ≠ 0 by omega)
      have h5 := Int.emod_lt_of_pos x (show 0 < n by omega)
      exact ⟨_, _, _, rfl, ⟨by rw [h3]; exact h4, .inl (by rw [h3]; exact h5)⟩, hc'⟩
    · obtain ⟨x, i1, h1', e1, hx, hc1⟩ := spec_l1Byte_dr c i h hc hl
      obtain ⟨y, i2, h2', e2, hy, hc2⟩ := spec_l1Byte_dr c i1 h1' hc1 hl
      obtain ⟨z, i3, h3', e3, hz, hc3⟩ := spec_l1Byte_dr c i2 h2' hc2 hl
      obtain ⟨u, i4, h4', e4, hu, hc4⟩ := spec_l1Byte_dr c i3 h3' hc3 hl
      rw [if_neg h2, e1, Option.bind_some]; dsimp only
      rw [e2, Option.bind_some]; dsimp only
      rw [e3, Option.bind_some]; dsimp only
      rw [e4, Option.bind_some]; dsimp only
      rw [if_neg (by omega), w64 (x := x * 16777216) (by omega) (by omega), w64 (x := y * 65536) (by omega) (by omega), w64 (x := x * 16777216 + y * 65536) (by omega) (by omega), w64 (x := z * 256) (by omega) (by omega), w64 (x := x * 16777216 + y * 65536 + z * 256) (by omega) (by omega), w64 (x := x * 16777216 + y * 65536 + z * 256 + u) (by omega) (by omega)]
      generalize hq : x * 16777216 + y * 65536 + z * 256 + u = q
      have h3 := Int.tmod_eq_emod_of_nonneg (b := n) (show 0 ≤ q by omega)
      have h4 := Int.emod_nonneg q (show n ≠ 0 by omega)
      have h5 := Int.emod_lt_of_pos q (show 0 < n by omega)
      exact ⟨_, _, _, rfl, ⟨by rw [h3]; exact h4, .inl (by rw [h3]; exact h5)⟩, hc4⟩

theorem spec_l1New_l0 (c : List Int) (hl : c.length ≤ 1048576) (d : Nat) : ∀ (i : Nat) (h : Int), i + d = c.length → ∃ h', Ev (fun k => spec_l1New.l0 k c h (i : Int)) (c, 0, h') := by
  induction d with
  | zero =>
    intro i h hi
    refine ⟨h, Ev.step (f := fun _ => some (c, 0, h)) (fun k => ?_) (Ev.now _)⟩
    simp only [spec_l1New.l0]; rw [if_neg (by omega)]
  | succ d ih =>
    intro i h hi
    by_cases h4 : (i : Int) < 4000
    · obtain ⟨h', e⟩ := ih (i + 1) (Go.bits .and .i64 (wrap64 ((wrap64 ((wrap64 (h * 131)) + (wrap64 (rd c (i : Int))))) + 7)) 1073741823) (by omega)
      refine ⟨h', Ev.step (fun k => ?_) e⟩
      simp only [spec_l1New.l0]
      rw [if_pos (by omega), if_pos h4, if_pos (by omega), w64s i (by omega)]
    · refine ⟨h, Ev.step (f := fun _ => some (c, 0, h)) (fun k => ?_) (Ev.now _)⟩
      simp only [spec_l1New.l0]; rw [if_pos (by omega), if_neg h4]
theorem spec_l1New_dr (c : List Int) (hl : c.length ≤ 1048576) : ∃ h, Ev (fun k => spec_l1New.f k c) (c, 0, h) := by
  unfold spec_l1New.f
  exact spec_l1New_l0 c hl c.length 0 _ (by omega)
theorem cu0 (c : List Int) : Cu c 0 := ⟨Int.le_refl 0, by omega⟩

theorem spec_l1PickInt_dr (c : List Int) (i h : Int) (l : List Int) (hn : 0 < l.length) (hc : Cu c i) (hl : c.length ≤ 1048576) : ∃ x i' h', spec_l1PickInt.f c i h l = some (x, i', h') ∧ x ∈ l ∧ Cu c i' := by
  obtain ⟨x, i', h', e, hx, hc'⟩ := spec_l1Below_dr c i h (l.length : Int) hc hl
  have h1 : x < (l.length : Int) := by omega
  have h2 : x.toNat < l.length := by omega
  unfold spec_l1PickInt.f; rw [e, Option.bind_some]; dsimp only
  rw [if_pos hx.1, if_pos h1]
  refine ⟨_, _, _, rfl, ?_, hc'⟩
  simp only [rd, List.getD_eq_getElem?_getD, List.getElem?_eq_getElem h2, Option.getD_some]
  exact List.getElem_mem h2

theorem spec_l2DrawRight_dr (c : List Int) (i h : Int) (hc : Cu c i) (hl : c.length ≤ 1048576) : ∃ s i' h', Ev (fun k => spec_l2DrawRight.f k c i h) (s, i', h') ∧ (s.length ≤ 3 ∧ ∀ x ∈ s, 0 ≤ x ∧ x ≤ 5) ∧ Cu c i' := by
  unfold spec_l2DrawRight.f
  obtain ⟨x, i1, h1, e1, hx, hc1⟩ := spec_l1Below_dr c i h 5 hc hl
  by_cases x0 : x = 0
  · exact ⟨_, _, _, evBind0 e1 (evPos x0 (Ev.now _)), ⟨by simp, by simp⟩, hc1⟩
  · have hj : ∀ b, ∃ s i' h', Ev (fun k => spec_l2DrawRight.j0 k x b c i1 h1) (s, i', h') ∧ (s.length ≤ 3 ∧ ∀ x ∈ s, 0 ≤ x ∧ x ≤ 5) ∧ Cu c i' := by
      intro b
      cases b with
      | true =>
        obtain ⟨y, i2, h2, e2, hy, hc2⟩ := spec_l1Below_dr c i1 h1 6 hc1 hl
        refine ⟨_, _, _, Ev.step (fun k => by rw [spec_l2DrawRight.j0]) (evPos rfl (evBind0 e2 (Ev.now _))), ?_, hc2⟩
        dsimp only
        refine ⟨by simp, fun z hz => ?_⟩
        rw [List.mem_singleton] at hz; omega
      | false =>
        by_cases x3 : x = 3
        · obtain ⟨y, i2, h2, e2, hy, hc2⟩ := spec_l1Below_dr c i1 h1 4 hc1 hl
          obtain ⟨z, i3, h3, e3, hz, hc3⟩ := spec_l1Below_dr c i2 h2 3 hc2 hl
          refine ⟨[y, wrap64 (1 + z)], i3, h3, Ev.step (fun k => by rw [spec_l2DrawRight.j0]) (evNeg (by simp) (evPos x3 (evBind0 e2 ?_))), ?_, hc3⟩
          · exact evBind0 (a := (z, i3, h3)) e3 (Ev.now ([y, wrap64 (1 + z)], i3, h3))
          rw [w64 (x := 1 + z) (by omega) (by omega)]
          refine ⟨by simp, fun u hu => ?_⟩
          simp only [List.mem_cons, List.not_mem_nil, or_false] at hu; omega
        · obtain ⟨y, i2, h2, e2, hy, hc2⟩ := spec_l1Below_dr c i1 h1 3 hc1 hl
          obtain ⟨z, i3, h3, e3, hz, hc3⟩ := spec_l1Below_dr c i2 h2 2 hc2 hl
          obtain ⟨v, i4, h4, e4, hv, hc4⟩ := spec_l1Below_dr c i3 h3 4 hc3 hl
          refine ⟨[wrap64 (1 + y), wrap64 (1 + z), v], i4, h4, Ev.step (fun k => by rw [spec_l2DrawRight.j0]) (evNeg (by simp) (evNeg x3 (evBind0 e2 ?_))), ?_, hc4⟩
          · exact evBind0 (a := (z, i3, h3)) e3 (evBind0 (a := (v, i4, h4)) e4 (Ev.now ([wrap64 (1 + y), wrap64 (1 + z), v], i4, h4)))
          rw [w64 (x := 1 + y) (by omega) (by omega), w64 (x := 1 + z) (by omega) (by omega)]
          refine ⟨by simp, fun u hu => ?_⟩
          simp only [List.mem_cons, List.not_mem_nil, or_false] at hu; omega
    by_cases x1 : x = 1
    · obtain ⟨s, i', h', e, r⟩ := hj (x == 1)
      exact ⟨s, i', h', evBind0 e1 (evNeg x0 (evPos x1 e)), r⟩
    · obtain ⟨s, i', h', e, r⟩ := hj (x == 2)
      exact ⟨s, i', h', evBind0 e1 (evNeg x0 (evNeg x1 e)), r⟩
theorem spec_l2Draw_dr (c : List Int) (i h : Int) (hc : Cu c i) (hl : c.length ≤ 1048576) : ∃ s i' h', Ev (fun k => spec_l2Draw.f k c i h) (s, i', h') ∧ (s.length ≤ 4 ∧ ∀ x ∈ s, -1 ≤ x ∧ x ≤ 301) ∧ Cu c i' := by
  unfold spec_l2Draw.f
  obtain ⟨s, i1, h1, e1, ⟨hs, hx⟩, hc1⟩ := spec_l2DrawRight_dr c i h hc hl
  obtain ⟨x, i2, h2, e2, _, hc2⟩ := spec_l1Below_dr c i1 h1 20 hc1 hl
  by_cases x0 : x = 0
  · obtain ⟨y, i3, h3, e3, hy, hc3⟩ := spec_l1PickInt_dr c i2 h2 [-1, 0, 300, 301] (by decide) hc2 hl
    refine ⟨_, _, _, Ev.bind e1 (evBind0 e2 (evPos x0 (evBind0 e3 (evPos (by dsimp only; omega) (Ev.now _))))), ?_, hc3⟩
    dsimp only
    refine ⟨by rw [List.length_append]; simp; omega, fun u hu => ?_⟩
    rw [List.mem_append, List.mem_singleton] at hu
    simp only [List.mem_cons, List.not_mem_nil, or_false] at hy
    rcases hu with hu | hu
    · have := hx u hu; omega
    · omega
  by_cases x1 : x = 1
  · exact ⟨_, _, _, Ev.bind e1 (evBind0 e2 (evNeg x0 (evPos x1 (Ev.now _)))), ⟨by simp, by simp⟩, hc2⟩
  by_cases x2 : x = 2
  · obtain ⟨y, i3, h3, e3, hy, hc3⟩ := spec_l1PickInt_dr c i2 h2 [17, 20, 15, 300] (by decide) hc2 hl
    obtain ⟨z, i4, h4, e4, hz, hc4⟩ := spec_l1PickInt_dr c i3 h3 [15, 20, 16, 0] (by decide) hc3 hl
    refine ⟨_, _, _, Ev.bind e1 (evBind0 e2 (evNeg x0 (evNeg x1 (evPos x2 (evBind0 e3 (evBind0 e4 (Ev.now _))))))), ?_, hc4⟩
    dsimp only
    refine ⟨by simp, fun u hu => ?_⟩
    simp only [List.mem_cons, List.not_mem_nil, or_false] at hu hy hz; omega
  · exact ⟨_, _, _, Ev.bind e1 (evBind0 e2 (evNeg x0 (evNeg x1 (evNeg x2 (Ev.now _))))), ⟨by dsimp only; omega, fun u hu => by have := hx u hu; omega⟩, hc2⟩

theorem spec_l1Once_dr (c : List Int) (i h n : Int) (hc : Cu c i) (hl : c.length ≤ 1048576) : ∃ x i' h', spec_l1Once.f c i h n = some (x, i', h') ∧ Cu c i' := by
  obtain ⟨x, i', h', e, _, hc'⟩ := spec_l1Below_dr c i h n hc hl
  unfold spec_l1Once.f; rw [e, Option.bind_some]
  exact ⟨_, _, _, rfl, hc'⟩

theorem spec_l1DrawNum_dr (c : List Int) (i h : Int) (hc : Cu c i) (hl : c.length ≤ 1048576) : ∃ x i' h', spec_l1DrawNum.f c i h = some (x, i', h') ∧ (-1000000000000 ≤ x ∧ x ≤ 1000000000000) ∧ Cu c i' := by
  obtain ⟨b, i1, h1, e1, hc1⟩ := spec_l1Once_dr c i h 12 hc hl
  unfold spec_l1DrawNum.f; rw [e1, Option.bind_some]; dsimp only
  cases b with
  | true =>
    obtain ⟨x, i2, h2, e2, hx, hc2⟩ := spec_l1PickInt_dr c i1 h1 [1000000000000, -1000000000000, 999999999999, 1000000, -1000000, 1000001, 999999999999] (by decide) hc1 hl
    rw [if_pos rfl, e2, Option.bind_some]
    refine ⟨_, _, _, rfl, ?_, hc2⟩
    simp only [List.mem_cons, List.not_mem_nil, or_false] at hx
    dsimp only
    omega
  | false =>
    obtain ⟨x, i2, h2, e2, hx, hc2⟩ := spec_l1Below_dr c i1 h1 20 hc1 hl
    rw [if_neg (by simp), e2, Option.bind_some]
    refine ⟨_, _, _, rfl, ?_, hc2⟩
    dsimp only
    rw [w64 (by omega) (by omega)]; omega

theorem spec_l1DrawRaw_dr (c : List Int) (i h : Int) (hc : Cu c i) (hl : c.length ≤ 1048576) : ∃ x i' h', spec_l1DrawRaw.f c i h = some (x, i', h') ∧ (-9223372036854775808 ≤ x ∧ x ≤ 9223372036854775807) ∧ Cu c i' := by
  obtain ⟨b, i1, h1, e1, hc1⟩ := spec_l1Once_dr c i h 15 hc hl
  unfold spec_l1DrawRaw.f; rw [e1, Option.bind_some]; dsimp only
  cases b with
  | true =>
    obtain ⟨x, i2, h2, e2, hx, hc2⟩ := spec_l1PickInt_dr c i1 h1 [1000000000001, -1000000000001, 9223372036854775807, -9223372036854775808] (by decide) hc1 hl
    rw [if_pos rfl, e2, Option.bind_some]
    refine ⟨_, _, _, rfl, ?_, hc2⟩
    simp only [List.mem_cons, List.not_mem_nil, or_false] at hx
    dsimp only
    omega
  | false =>
    obtain ⟨x, i2, h2, e2, hx, hc2⟩ := spec_l1DrawNum_dr c i1 h1 hc1 hl
    rw [if_neg (by simp), e2, Option.bind_some]
    refine ⟨_, _, _, rfl, ?_, hc2⟩
    dsimp only
    omega

theorem spec_l3Fill_l0 (c s : List Int) (hl : c.length ≤ 1048576) (n : Nat) : ∀ (j : Nat) (d : List Int) (i h : Int), szOf s - j ≤ n → d.length = j → j ≤ 300 → (∀ x ∈ d, -1000000000000 ≤ x ∧ x ≤ 1000000000000) → Cu c i → ∃ e i' h', Ev (fun k => spec_l3Fill.l0 k s (j : Int) c i h s d) (s, e, i', h') ∧ (e.length ≤ 300 ∧ ∀ x ∈ e, -1000000000000 ≤ x ∧ x ≤ 1000000000000) ∧ Cu c i' := by
  have hz := szOf_ge s
  induction n with
  | zero =>
    intro j d i h hn hd hj hx hc
    refine ⟨d, i, h, Ev.step (fun k => by rw [spec_l3Fill.l0]) ?_, ⟨by omega, hx⟩, hc⟩
    refine Ev.bind (spec_SizeOf_ev s) ?_
    exact evNeg (by omega) (Ev.now _)
  | succ n ih =>
    intro j d i h hn hd hj hx hc
    by_cases hlt : (j : Int) < szOf s
    · obtain ⟨y, i1, h1, e1, hy, hc1⟩ := spec_l1DrawNum_dr c i h hc hl
      obtain ⟨e, i2, h2, ee, he, hc2⟩ := ih (j + 1) (d ++ [y]) i1 h1 (by omega) (by simp [hd]) (by omega) (fun x hx' => by
        rcases List.mem_append.1 hx' with h | h
        · exact hx x h
        · rw [List.mem_singleton] at h; omega) hc1
      refine ⟨e, i2, h2, Ev.step (fun k => by rw [spec_l3Fill.l0]) ?_, he, hc2⟩
      refine Ev.bind (spec_SizeOf_ev s) (evPos hlt (evBind0 e1 ?_))
      dsimp only
      rw [w64s j (by omega)]
      exact evPos (by omega) ee
    · refine ⟨d, i, h, Ev.step (fun k => by rw [spec_l3Fill.l0]) ?_, ⟨by omega, hx⟩, hc⟩
      exact Ev.bind (spec_SizeOf_ev s) (evNeg hlt (Ev.now _))
theorem spec_l3Fill_dr (c : List Int) (i h : Int) (s : List Int) (hs : s.length ≤ 100) (hc : Cu c i) (hl : c.length ≤ 1048576) : ∃ e i' h', Ev (fun k => spec_l3Fill.f k c i h s) (s, e, i', h') ∧ (e.length ≤ 300 ∧ ∀ x ∈ e, -1000000000000 ≤ x ∧ x ≤ 1000000000000) ∧ Cu c i' := by
  unfold spec_l3Fill.f
  have hz := szOf_ge s
  obtain ⟨e, i1, h1, ee, he, hc1⟩ := spec_l3Fill_l0 c s hl 300 0 [] i h (by omega) rfl (by omega) (by simp) hc
  exact ⟨e, i1, h1, evLet (evPos (by rw [List.length_nil]; omega) (by simpa using ee)), he, hc1⟩
theorem spec_l3DrawRight_dr (c : List Int) (i h : Int) (hc : Cu c i) (hl : c.length ≤ 1048576) : ∃ s d i' h', Ev (fun k => spec_l3DrawRight.f k c i h) (s, d, i', h') ∧ (s.length ≤ 3 ∧ d.length ≤ 300 ∧ ∀ x ∈ d, -1000000000000 ≤ x ∧ x ≤ 1000000000000) ∧ Cu c i' := by
  unfold spec_l3DrawRight.f
  obtain ⟨s, i1, h1, e1, ⟨hs, _⟩, hc1⟩ := spec_l2DrawRight_dr c i h hc hl
  obtain ⟨d, i2, h2, e2, hd, hc2⟩ := spec_l3Fill_dr c i1 h1 s (by omega) hc1 hl
  exact ⟨s, d, i2, h2, Ev.bind e1 (Ev.bind e2 (Ev.now _)), ⟨hs, hd⟩, hc2⟩
theorem spec_l3Draw_dr (c : List Int) (i h : Int) (hc : Cu c i) (hl : c.length ≤ 1048576) : ∃ s d i' h', Ev (fun k => spec_l3Draw.f k c i h) (s, d, i', h') ∧ (s.length ≤ 4 ∧ d.length ≤ 301 ∧ ∀ x ∈ d, -9223372036854775808 ≤ x ∧ x ≤ 9223372036854775807) ∧ Cu c i' := by
  unfold spec_l3Draw.f
  obtain ⟨s, d, i1, h1, e1, ⟨hs, hd, hx⟩, hc1⟩ := spec_l3DrawRight_dr c i h hc hl
  obtain ⟨x, i2, h2, e2, hx2, hc2⟩ := spec_l1Below_dr c i1 h1 20 hc1 hl
  have hw : ∀ x ∈ d, -9223372036854775808 ≤ x ∧ x ≤ 9223372036854775807 := fun x h => by have := hx x h; omega
  by_cases x0 : x = 0
  · refine ⟨s, d ++ [1], i2, h2, Ev.bind e1 (evBind0 e2 ?_), ⟨by omega, by simp; omega, fun y hy => ?_⟩, hc2⟩
    · dsimp only
      exact evPos x0 (evPos (by omega) (Ev.now _))
    · rcases List.mem_append.1 hy with h | h
      · exact hw y h
      · rw [List.mem_singleton] at h; omega
  by_cases x1 : x = 1
  · obtain ⟨s2, i3, h3, e3, ⟨hs2, _⟩, hc3⟩ := spec_l2Draw_dr c i2 h2 hc2 hl
    refine ⟨s2, d, i3, h3, Ev.bind e1 (evBind0 e2 ?_), ⟨hs2, by omega, hw⟩, hc3⟩
    dsimp only
    exact evNeg x0 (evPos x1 (Ev.bind e3 (Ev.now _)))
  by_cases x2 : x = 2
  · by_cases hd0 : (d.length : Int) > 0
    · obtain ⟨p, i3, h3, e3, hp, hc3⟩ := spec_l1Below_dr c i2 h2 (d.length : Int) hc2 hl
      obtain ⟨y, i4, h4, e4, hy, hc4⟩ := spec_l1DrawRaw_dr c i3 h3 hc3 hl
      refine ⟨s, d.set p.toNat y, i4, h4, Ev.bind e1 (evBind0 e2 ?_), ⟨by omega, by rw [List.length_set]; omega, fun z hz => ?_⟩, hc4⟩
      · dsimp only
        refine evNeg x0 (evNeg x1 (evPos x2 (evPos hd0 (evBind0 e3 ?_))))
        dsimp only
        refine evBind0 e4 ?_
        dsimp only
        exact evPos hp.1 (evPos (by omega) (Ev.now _))
      · rcases List.mem_or_eq_of_mem_set hz with h | h
        · exact hw z h
        · omega
    · refine ⟨s, d, i2, h2, Ev.bind e1 (evBind0 e2 ?_), ⟨by omega, by omega, hw⟩, hc2⟩
      dsimp only
      exact evNeg x0 (evNeg x1 (evPos x2 (evNeg hd0 (Ev.now _))))
  by_cases x3 : x = 3
  · obtain ⟨p, i3, h3, e3, hp, hc3⟩ := spec_l1Below_dr c i2 h2 2 hc2 hl
    have hq : wrap64 (300 + p) = 300 + p := w64 (by omega) (by omega)
    refine ⟨[300], List.replicate (300 + p).toNat 0, i3, h3, Ev.bind e1 (evBind0 e2 ?_), ⟨by simp, by rw [List.length_replicate]; omega, fun z hz => ?_⟩, hc3⟩
    · dsimp only
      refine evNeg x0 (evNeg x1 (evNeg x2 (evPos x3 (evBind0 e3 ?_))))
      dsimp only
      rw [hq]
      exact evPos (by omega) (evPos (by omega) (Ev.now _))
    · have := List.eq_of_mem_replicate hz; omega
  · refine ⟨s, d, i2, h2, Ev.bind e1 (evBind0 e2 ?_), ⟨by omega, by omega, hw⟩, hc2⟩
    dsimp only
    exact evNeg x0 (evNeg x1 (evNeg x2 (evNeg x3 (Ev.now _))))

theorem spec_l1DrawSign_dr (c : List Int) (i h : Int) (hc : Cu c i) (hl : c.length ≤ 1048576) : ∃ x i' h', spec_l1DrawSign.f c i h = some (x, i', h') ∧ Cu c i' := by
  obtain ⟨b, i1, h1, e1, hc1⟩ := spec_l1Once_dr c i h 20 hc hl
  unfold spec_l1DrawSign.f; rw [e1, Option.bind_some]; dsimp only
  cases b with
  | true =>
    obtain ⟨x, i2, h2, e2, hx, hc2⟩ := spec_l1PickInt_dr c i1 h1 [0, -1, 105, 300, 47] (by decide) hc1 hl
    rw [if_pos rfl, e2, Option.bind_some]
    exact ⟨_, _, _, rfl, hc2⟩
  | false =>
    obtain ⟨x, i2, h2, e2, hx, hc2⟩ := spec_l1PickInt_dr c i1 h1 [43, 45, 42, 37, 124, 38, 94, 61, 60, 62, 126] (by decide) hc1 hl
    rw [if_neg (by simp), e2, Option.bind_some]
    exact ⟨_, _, _, rfl, hc2⟩

theorem spec_l3Copy_eq (s d : List Int) (hs : s.length ≤ 1048576) (hd : d.length ≤ 1048576) : spec_l3Copy.f s d = some (s, d) := by
  unfold spec_l3Copy.f
  rw [Option.bind_some, if_pos (by rw [List.length_nil]; omega), Option.bind_some, if_pos (by rw [List.length_nil]; omega)]; rfl

theorem spec_ShapeOk_ev (l : List Int) : Ev (fun k => spec_ShapeOk.f k l) (decide (szOf l ≥ 0)) := by
  unfold spec_ShapeOk.f
  exact Ev.bind (spec_SizeOf_ev l) (Ev.now _)

theorem spec_l3DrawTwo_dr (c : List Int) (hl : c.length ≤ 1048576) : ∃ a0 a1 b0 b1, Ev (fun k => spec_l3DrawTwo.f k c) (a0, a1, b0, b1) ∧ (a0.length ≤ 4 ∧ a1.length ≤ 301) ∧ (b0.length ≤ 4 ∧ b1.length ≤ 301) := by
  unfold spec_l3DrawTwo.f
  obtain ⟨h0, e0⟩ := spec_l1New_dr c hl
  obtain ⟨a0, a1, i1, h1, e1, ⟨p1, p2, _⟩, hc1⟩ := spec_l3Draw_dr c 0 h0 (cu0 c) hl
  obtain ⟨b0, b1, i2, h2, e2, ⟨q1, q2, _⟩, hc2⟩ := spec_l3Draw_dr c i1 h1 hc1 hl
  obtain ⟨x, i3, h3, e3, _, hc3⟩ := spec_l1Below_dr c i2 h2 4 hc2 hl
  by_cases x0 : x = 0
  · exact ⟨a0, a1, a0, a1, Ev.bind e0 (Ev.bind e1 (Ev.bind e2 (evBind0 e3 (evPos x0 (evBind0 (spec_l3Copy_eq a0 a1 (by omega) (by omega)) (Ev.now _)))))), ⟨p1, p2⟩, ⟨p1, p2⟩⟩
  by_cases x1 : x = 1
  · by_cases hs : szOf a0 ≥ 0
    · obtain ⟨e, i4, h4, e4, ⟨r1, _⟩, _⟩ := spec_l3Fill_dr c i3 h3 a0 (by omega) hc3 hl
      exact ⟨a0, a1, a0, e, Ev.bind e0 (Ev.bind e1 (Ev.bind e2 (evBind0 e3 (evNeg x0 (evPos x1 (Ev.bind (spec_ShapeOk_ev a0) (evPos (decide_eq_true hs) (Ev.bind e4 (Ev.now _))))))))), ⟨p1, p2⟩, ⟨p1, by omega⟩⟩
    · exact ⟨a0, a1, b0, b1, Ev.bind e0 (Ev.bind e1 (Ev.bind e2 (evBind0 e3 (evNeg x0 (evPos x1 (Ev.bind (spec_ShapeOk_ev a0) (evNeg (by simpa using hs) (Ev.now _)))))))), ⟨p1, p2⟩, ⟨q1, q2⟩⟩
  · exact ⟨a0, a1, b0, b1, Ev.bind e0 (Ev.bind e1 (Ev.bind e2 (evBind0 e3 (evNeg x0 (evNeg x1 (Ev.now _)))))), ⟨p1, p2⟩, ⟨q1, q2⟩⟩
theorem spec_DrawEachTwo_dr (c : List Int) (hl : c.length ≤ 1048576) : ∃ s a0 a1 b0 b1, Ev (fun k => spec_DrawEachTwo.f k c) (s, a0, a1, b0, b1) ∧ (a0.length ≤ 4 ∧ a1.length ≤ 301) ∧ (b0.length ≤ 4 ∧ b1.length ≤ 301) := by
  unfold spec_DrawEachTwo.f
  obtain ⟨a0, a1, b0, b1, e, p, q⟩ := spec_l3DrawTwo_dr c hl
  obtain ⟨h0, e0⟩ := spec_l1New_dr c hl
  obtain ⟨x, i1, h1, e1, _⟩ := spec_l1DrawSign_dr c 0 h0 (cu0 c) hl
  exact ⟨x, a0, a1, b0, b1, Ev.bind e (Ev.bind e0 (evBind0 e1 (Ev.now _))), p, q⟩

theorem lim_ok {x : Int} (h : (lim x).2 = 0) : okN (lim x).1 = true := by
  unfold lim at h ⊢
  by_cases hx : okN x = true
  · rw [if_pos hx]; exact hx
  · rw [if_neg hx] at h; simp at h
theorem two_ok {s a b : Int} (h : (two s a b).2 = 0) : okN (two s a b).1 = true := by
  unfold two at h ⊢
  split at h
  · rename_i h1
    rw [if_pos h1]
    repeat' split at h
    all_goals first
      | (simp at h; done)
      | (simp only [*, if_true, if_false, ↓reduceIte] ; first | exact lim_ok h | (simp_all; done))
  · simp at h
theorem mapN_get (g : Nat → Int × Int) : ∀ (n i : Nat), (mapN g n i).2 = 0 → (mapN g n i).1.length = n ∧ ∀ j (hj : j < (mapN g n i).1.length), (g (i + j)).2 = 0 ∧ (mapN g n i).1[j] = (g (i + j)).1
  | 0, i, _ => ⟨rfl, fun j hj => by simp [mapN] at hj⟩
  | n + 1, i, h => by
    by_cases h1 : (g i).2 = 0
    · by_cases h2 : (mapN g n (i + 1)).2 = 0
      · have e : mapN g (n + 1) i = ((g i).1 :: (mapN g n (i + 1)).1, 0) := by rw [mapN, if_pos h1, if_pos h2]
        obtain ⟨h3, h4⟩ := mapN_get g n (i + 1) h2
        refine ⟨by rw [e]; simp [h3], fun j hj => ?_⟩
        cases j with
        | zero => exact ⟨h1, by simp only [e, List.getElem_cons_zero, Nat.add_zero]⟩
        | succ j =>
          have hj2 : j < (mapN g n (i + 1)).1.length := by rw [e] at hj; simpa using hj
          obtain ⟨h5, h6⟩ := h4 j hj2
          rw [show i + (j + 1) = i + 1 + j by omega]
          exact ⟨h5, by simp only [e, List.getElem_cons_succ]; exact h6⟩
      · rw [mapN, if_pos h1, if_neg h2] at h; exact absurd h h2
    · rw [mapN, if_neg h1] at h; exact absurd h h1
theorem FnEach_l0 (s : Int) (a b c d sh v : List Int) (N : Nat) (h3 : N ≤ 300) (hv : v.length = N) (hi : ∀ i, i < N → ((a.length = 0 → 0 < b.length) ∧ (a.length ≠ 0 → i < b.length)) ∧ ((c.length = 0 → 0 < d.length) ∧ (c.length ≠ 0 → i < d.length))) (hg : ∀ j (hj : j < v.length), (two s (atA a b j) (atA c d j)).2 = 0 ∧ v[j] = (two s (atA a b j) (atA c d j)).1) (n : Nat) : ∀ i : Nat, i + n = N → Ev (fun k => laws_FnEach.l0 k s (i : Int) a b c d sh v) true := by
  induction n with
  | zero =>
    intro i h1
    exact Ev.step (fun k => by rw [laws_FnEach.l0]) (evNeg (by omega) (Ev.now _))
  | succ n ih =>
    intro i h1
    obtain ⟨⟨a1, a2⟩, ⟨c1, c2⟩⟩ := hi i (by omega)
    obtain ⟨g1, g2⟩ := hg i (by omega)
    have ih' := ih (i + 1) (by omega)
    have hb : 0 < b.length := by
      by_cases h : a.length = 0
      · exact a1 h
      · have := a2 h; omega
    have hd : 0 < d.length := by
      by_cases h : c.length = 0
      · exact c1 h
      · have := c2 h; omega
    have hj2 : Ev (fun k => laws_FnEach.j2 k s (i : Int) (atA a b i) (rd d 0) a b c d sh v) true := by
      refine Ev.step (fun k => by rw [laws_FnEach.j2]) ?_
      rw [rdn v i (by omega), w64s i (by omega)]
      by_cases h : c.length = 0
      · have e : atA c d i = rd d 0 := by unfold atA; rw [if_pos h]
        rw [e] at g1 g2
        exact evNeg (by omega) (Ev.bind (impl_Two_ev s _ _) (evPos g1 (evPos (by omega) (evPos (by omega) (evPos g2.symm ih')))))
      · have e : atA c d i = rd d (i : Int) := by unfold atA; rw [if_neg h]
        rw [e] at g1 g2
        have := c2 h
        exact evPos (by omega) (evPos (by omega) (evPos (by omega) (Ev.bind (impl_Two_ev s _ _) (evPos g1 (evPos (by omega) (evPos g2.symm ih'))))))
    refine Ev.step (fun k => by rw [laws_FnEach.l0]) (evPos (by omega) (evPos (by omega) (evPos (by omega) ?_)))
    by_cases h : a.length = 0
    · have e : atA a b i = rd b 0 := by unfold atA; rw [if_pos h]
      rw [e] at hj2
      exact evNeg (by omega) hj2
    · have e : atA a b i = rd b (i : Int) := by unfold atA; rw [if_neg h]
      rw [e] at hj2
      have := a2 h
      exact evPos (by omega) (evPos (by omega) (evPos (by omega) hj2))
theorem FnEach : laws_FnEach.Pure := by
  intro l _ _ _
  suffices hE_ : Ev (fun k => laws_FnEach.f k l) true from Exists.elim hE_ (fun K_ h_ => ⟨K_, h_ K_ (Nat.le_refl _)⟩)
  unfold laws_FnEach.f
  refine evBind0 (laws_big_eq l) ?_
  by_cases hb : (l.length : Int) > 1048576
  · exact evPos (decide_eq_true hb) (Ev.now _)
  refine evNeg (by simpa using hb) ?_
  have hl : l.length ≤ 1048576 := by omega
  obtain ⟨s, a, b, c, d, e, ⟨ha, hb'⟩, ⟨hc, hd⟩⟩ := spec_DrawEachTwo_dr l hl
  refine Ev.bind e (Ev.bind (impl_EachTwo_ev s a b c d (by omega) (by omega) (by omega) (by omega)) (Ev.bind (spec_EachTwo_ev s a b c d (by omega) (by omega) (by omega) (by omega)) (evPos rfl (Ev.bind (impl_Fit_ev a b c d (by omega) (by omega) (by omega) (by omega)) ?_))))
  dsimp only
  by_cases h : (arrayOk a b = true ∧ arrayOk c d = true) ∧ sign2 s = true
  · by_cases hF : (fit a b c d).2 = 0
    · obtain ⟨N, hz, hN, hi⟩ := fit_at h.1.1 h.1.2 hF
      have eN : (szOf (fit a b c d).1).toNat = N := by omega
      by_cases hm : (mapN (fun i => two s (atA a b i) (atA c d i)) N 0).2 = 0
      · have eE : eachTwo s a b c d = ((fit a b c d).1, (mapN (fun i => two s (atA a b i) (atA c d i)) N 0).1, 0) := by
          unfold eachTwo; rw [if_pos h, if_pos hF, eN, if_pos hm]
        obtain ⟨g1, g2⟩ := mapN_get _ N 0 hm
        have hok : arrayOk (fit a b c d).1 (mapN (fun i => two s (atA a b i) (atA c d i)) N 0).1 = true := by
          unfold arrayOk
          rw [Bool.and_eq_true, decide_eq_true_iff, g1, hz]
          refine ⟨rfl, List.all_eq_true.2 fun x hx => ?_⟩
          obtain ⟨j, hj, rfl⟩ := List.mem_iff_getElem.1 hx
          obtain ⟨k1, k2⟩ := g2 j hj
          rw [k2]; exact two_ok k1
        have hfl := fit_len a b c d (by omega) (by omega)
        rw [eE]
        refine evPos rfl (evPos hF (Ev.bind (laws_sameInts_rfl _ (by omega)) (evPos rfl (Ev.bind (impl_ArrayOk_ev _ _ (by dsimp only; omega)) ?_))))
        dsimp only
        rw [hok]
        refine Ev.step (fun k => by rw [laws_FnEach.j0]) (evNeg (by simp) ?_)
        exact FnEach_l0 s a b c d _ _ N hN g1 hi (fun j hj => by have := g2 j hj; rw [Nat.zero_add] at this; exact this) N 0 (by omega)
      · have eE : eachTwo s a b c d = ([], [], (mapN (fun i => two s (atA a b i) (atA c d i)) N 0).2) := by
          unfold eachTwo; rw [if_pos h, if_pos hF, eN, if_neg hm]
        rw [eE]
        exact evNeg hm (evPos rfl (evPos hF (Ev.now _)))
    · have eE : eachTwo s a b c d = ([], [], (fit a b c d).2) := by
        unfold eachTwo; rw [if_pos h, if_neg hF]
      rw [eE]
      exact evNeg hF (evPos rfl (evNeg hF (evPos rfl (Ev.now _))))
  · have eE : eachTwo s a b c d = ([], [], 1) := by
      unfold eachTwo; rw [if_neg h]
    rw [eE]
    refine evNeg (by decide) (evPos rfl ?_)
    by_cases hF : (fit a b c d).2 = 0
    · exact evPos hF (Ev.now _)
    · refine evNeg hF ?_
      by_cases h1 : 1 = (fit a b c d).2
      · exact evPos h1 (Ev.now _)
      · exact evNeg h1 (evSome (by decide))

end Go.Proofs.Ytlaikodjcjfeiaa.Pure
