/- The law FnExactPick answers true for any two arrays: the program's Pick is the reference's, and what it hands back is its own memory. Conditions: those of the row's own reading alone. -/
import Derived.Test.YtnpcjppcoejgmaaPFnExactPickx
namespace Go.Proofs.Ytnpcjppcoejgmaa.Pure
open Go.RowKit Go.Proofs.Ytnpcjppcoejgmaa.PFnExactPick Go.Proofs.YtnpcjppcoejgmaaW.PrintWords Go.Proofs.YtnpcjppcoejgmaaW.PrintLast Go.Proofs.YtnpcjppcoejgmaaW.PrintMore
set_option linter.unusedVariables false
set_option linter.unusedSimpArgs false

section
variable {α β : Type}
theorem evPos {c : Prop} [Decidable c] {g h : Nat → Option α} {r : α} (hc : c) (e : Ev g r) : Ev (fun k => if c then g k else h k) r := by
  simpa only [if_pos hc] using e
theorem evNeg {c : Prop} [Decidable c] {g h : Nat → Option α} {r : α} (hc : ¬ c) (e : Ev h r) : Ev (fun k => if c then g k else h k) r := by
  simpa only [if_neg hc] using e
theorem evBind0 {o : Option α} {f : Nat → α → Option β} {a : α} {r : β} (h : o = some a) (k : Ev (fun n => f n a) r) : Ev (fun n => o.bind (f n)) r := by
  subst h; simpa only [Option.bind_some] using k
theorem evLet {a : α} {f : Nat → α → Option β} {r : β} (k : Ev (fun n => f n a) r) : Ev (fun n => (some a).bind (f n)) r := by
  simpa only [Option.bind_some] using k
theorem evEq {g : Nat → Option α} {r r' : α} (h : Ev g r) (e : r = r') : Ev g r' := e ▸ h
theorem evSome {a r : α} (e : a = r) : Ev (fun _ => some a) r := e ▸ Ev.now a
end
theorem w64 {x : Int} (h : -9223372036854775808 ≤ x) (h' : x ≤ 9223372036854775807) : wrap64 x = x := by unfold wrap64; omega
theorem w64s (i : Nat) (h : i < 4611686018427387904) : wrap64 ((i : Int) + 1) = ((i + 1 : Nat) : Int) := by rw [w64] <;> omega
theorem rdn (l : List Int) (i : Nat) (h : i < l.length) : rd l (i : Int) = l[i] := by
  simp only [rd, Int.toNat_natCast, List.getD_eq_getElem?_getD, List.getElem?_eq_getElem h, Option.getD_some]
/-- The product of a list. -/
def prod : List Int → Int
  | [] => 1
  | x :: l => x * prod l
/-- May these stand in a shape? -/
def inR (l : List Int) : Bool := l.all fun n => decide (0 ≤ n ∧ n ≤ 300)
/-- How many numbers an array of a shape has; -1 where the shape isn't right. -/
def szOf (l : List Int) : Int := if 3 < l.length then -1 else if inR l = true then (if prod l > 300 then -1 else prod l) else -1
theorem mul300 {a b : Int} {m n : Int} (h0 : 0 ≤ a) (h1 : a ≤ m) (h2 : 0 ≤ b) (h3 : b ≤ n) : 0 ≤ a * b ∧ a * b ≤ m * n :=
  ⟨Int.mul_nonneg h0 h2, Int.mul_le_mul h1 h3 h2 (Int.le_trans h0 h1)⟩
theorem inR_cons {a : Int} {l : List Int} : inR (a :: l) = true ↔ (0 ≤ a ∧ a ≤ 300) ∧ inR l = true := by
  simp [inR]
/-- A part of a shape's product stays small. -/
def pw : Nat → Int
  | 0 => 1
  | n + 1 => 300 * pw n
theorem prod_le : ∀ (l : List Int), inR l = true → 0 ≤ prod l ∧ prod l ≤ pw l.length
  | [], _ => by simp [prod, pw]
  | a :: l, h => by
    obtain ⟨⟨h0, h1⟩, h2⟩ := inR_cons.1 h
    obtain ⟨h3, h4⟩ := prod_le l h2
    exact mul300 h0 h1 h3 h4
theorem prod_append : ∀ (a b : List Int), prod (a ++ b) = prod a * prod b
  | [], b => by simp [prod]
  | x :: a, b => by simp [prod, prod_append a b, Int.mul_assoc]
theorem pw_le {n : Nat} (h : n ≤ 3) : pw n ≤ 27000000 := by
  match n, h with
  | 0, _ => decide
  | 1, _ => decide
  | 2, _ => decide
  | 3, _ => decide
theorem inR_take {l : List Int} (i : Nat) (h : inR l = true) : inR (l.take i) = true := by
  simp only [inR, List.all_eq_true] at h ⊢
  exact fun x hx => h x (List.mem_of_mem_take hx)
theorem prod_take_succ (l : List Int) (i : Nat) (h : i < l.length) : prod (l.take (i + 1)) = prod (l.take i) * l[i] := by
  rw [List.take_succ_eq_append_getElem h, prod_append]; simp [prod]
/-- The product so far is small. -/
theorem prod_take_le (l : List Int) (i : Nat) (hl : ¬ 3 < l.length) (h : inR (l.take i) = true) : 0 ≤ prod (l.take i) ∧ prod (l.take i) ≤ 27000000 := by
  obtain ⟨h0, h1⟩ := prod_le _ h
  have h2 : (l.take i).length ≤ 3 := by rw [List.length_take]; omega
  exact ⟨h0, Int.le_trans h1 (pw_le h2)⟩
theorem inR_take_succ (l : List Int) (i : Nat) (h : i < l.length) : inR (l.take (i + 1)) = true ↔ inR (l.take i) = true ∧ (0 ≤ l[i] ∧ l[i] ≤ 300) := by
  unfold inR
  rw [List.take_succ_eq_append_getElem h, List.all_append, Bool.and_eq_true]; simp
theorem inR_not {l : List Int} (i : Nat) (h : i < l.length) (hx : ¬ (0 ≤ l[i] ∧ l[i] ≤ 300)) : inR l = false := by
  rw [← Bool.not_eq_true]
  intro hh
  simp only [inR, List.all_eq_true] at hh
  exact hx (of_decide_eq_true (hh _ (List.getElem_mem h)))
theorem szOf_ge (l : List Int) : -1 ≤ szOf l ∧ szOf l ≤ 300 := by
  unfold szOf
  by_cases h1 : 3 < l.length
  · rw [if_pos h1]; omega
  · rw [if_neg h1]
    by_cases h2 : inR l = true
    · rw [if_pos h2]
      have := (prod_le l h2).1
      by_cases h3 : prod l > 300
      · rw [if_pos h3]; omega
      · rw [if_neg h3]; omega
    · rw [if_neg h2]; omega

/-- A right number. -/
def okN (x : Int) : Bool := decide (-1000000000000 ≤ x ∧ x ≤ 1000000000000)
theorem okN_t {x : Int} (h : okN x = true) : -1000000000000 ≤ x ∧ x ≤ 1000000000000 := of_decide_eq_true h
theorem szOf_nonneg {l : List Int} (h : szOf l ≥ 0) : ¬ 3 < l.length ∧ inR l = true ∧ prod l ≤ 300 ∧ szOf l = prod l := by
  unfold szOf at h ⊢
  by_cases h1 : 3 < l.length
  · rw [if_pos h1] at h; omega
  · rw [if_neg h1] at h ⊢
    by_cases h2 : inR l = true
    · rw [if_pos h2] at h ⊢
      by_cases h3 : prod l > 300
      · rw [if_pos h3] at h; omega
      · rw [if_neg h3] at h ⊢; exact ⟨h1, h2, by omega, rfl⟩
    · rw [if_neg h2] at h; omega
def arrayOk (s d : List Int) : Bool := decide ((d.length : Int) = szOf s) && d.all okN
theorem arrayOk_t {s d : List Int} (h : arrayOk s d = true) : (d.length : Int) = szOf s ∧ (∀ x ∈ d, okN x = true) ∧ d.length ≤ 300 ∧ s.length ≤ 3 ∧ szOf s ≥ 0 := by
  unfold arrayOk at h
  rw [Bool.and_eq_true, decide_eq_true_iff, List.all_eq_true] at h
  have h1 := szOf_ge s
  have h2 : szOf s ≥ 0 := by omega
  exact ⟨h.1, h.2, by omega, by have := (szOf_nonneg h2).1; omega, h2⟩

def row (t d : List Int) (M i : Nat) : S28 := ⟨t, (d.take ((i + 1) * M)).drop (i * M)⟩
def rowsN (N : Nat) (t d : List Int) (M : Nat) : List S28 := (List.range N).map (row t d M)
theorem rowsN_length (N : Nat) (t d : List Int) (M : Nat) : (rowsN N t d M).length = N := by unfold rowsN; simp
theorem rowsN_rd (N : Nat) (t d : List Int) (M i : Nat) (h : i < N) : rd_T28 (rowsN N t d M) (i : Int) = row t d M i := by
  unfold rd_T28 rowsN
  rw [Int.toNat_natCast, List.getD_eq_getElem?_getD, List.getElem?_eq_getElem (by simp; exact h)]; simp
def rows (s d : List Int) : List S28 := match s with
  | [] => []
  | n :: t => if arrayOk (n :: t) d = true then rowsN n.toNat t d (prod t).toNat else []
theorem rows_cons (n : Int) (t d : List Int) : rows (n :: t) d = if arrayOk (n :: t) d = true then rowsN n.toNat t d (prod t).toNat else [] := rfl
theorem wmul (a b : Nat) (h : a * b ≤ 1048576) : wrap64 ((a : Int) * (b : Int)) = ((a * b : Nat) : Int) := by
  have e : ((a * b : Nat) : Int) = (a : Int) * (b : Int) := Int.natCast_mul a b
  rw [w64] <;> omega
theorem rows_facts {n : Int} {t d : List Int} (h : arrayOk (n :: t) d = true) : 0 ≤ n ∧ n.toNat * (prod t).toNat = d.length ∧ n.toNat ≤ 300 ∧ (0 < n.toNat → szOf t = ((prod t).toNat : Int)) ∧ d.length ≤ 300 ∧ t.length ≤ 2 := by
  obtain ⟨h1, h2, h3, h4, h5⟩ := arrayOk_t h
  obtain ⟨g1, g2, g3, g4⟩ := szOf_nonneg h5
  obtain ⟨⟨a1, a2⟩, a3⟩ := inR_cons.1 g2
  have p0 := (prod_le t a3).1
  have ep : prod (n :: t) = n * prod t := rfl
  have hp : ((n.toNat * (prod t).toNat : Nat) : Int) = n * prod t := by rw [Int.natCast_mul, Int.toNat_of_nonneg a1, Int.toNat_of_nonneg p0]
  simp only [List.length_cons] at h4
  refine ⟨a1, by omega, by omega, fun hn => ?_, h3, by omega⟩
  have hle : prod t ≤ n * prod t := by
    have := Int.mul_le_mul_of_nonneg_right (show 1 ≤ n by omega) p0; rwa [Int.one_mul] at this
  unfold szOf
  rw [if_neg (by omega), if_pos a3, if_neg (by omega)]; omega
theorem row_len {N M i : Nat} {t d : List Int} (hd : N * M = d.length) (h : i < N) : (row t d M i).f1.length = M := by
  have h1 : (i + 1) * M ≤ N * M := Nat.mul_le_mul_right _ h
  have h2 : (i + 1) * M = i * M + M := Nat.succ_mul i M
  show ((d.take ((i + 1) * M)).drop (i * M)).length = M
  rw [List.length_drop, List.length_take, Nat.min_eq_left (by omega)]; omega
/-- Is this the index of a row, from the front or from behind? -/
def inB (n x : Int) : Bool := decide (-n ≤ x ∧ x ≤ n - 1)
def atI (n x : Int) : Nat := (if x < 0 then x + n else x).toNat
/-- The rows at these indexes, one behind the other. -/
def pk (R : Nat → S28) (n : Int) : List Int → List Int
  | [] => []
  | x :: l => (R (atI n x)).f1 ++ pk R n l
def pickS (a b : List Int) (n : Int) (t d : List Int) : List Int × List Int × Int :=
  if b.all (inB n) = true then (if szOf (a ++ t) ≥ 0 then (a ++ t, pk (row t d (prod t).toNat) n b, 0) else ([], [], 6)) else ([], [], 5)
def pickA (a b c d : List Int) : List Int × List Int × Int :=
  if arrayOk a b = true ∧ arrayOk c d = true then
    (match c with
      | [] => ([], [], 4)
      | n :: t => if a.length + t.length > 3 then ([], [], 4) else pickS a b n t d)
  else ([], [], 1)
theorem inB_at {n x : Int} (h : inB n x = true) : atI n x < n.toNat ∧ (atI n x : Int) = (if x < 0 then x + n else x) := by
  have h2 := of_decide_eq_true h
  unfold atI
  split <;> omega
theorem pk_len {N M : Nat} {t d : List Int} {n : Int} (hd : N * M = d.length) (hN : n.toNat = N) : ∀ (b : List Int), b.all (inB n) = true → (pk (row t d M) n b).length = b.length * M
  | [], _ => by simp [pk]
  | x :: l, h => by
    rw [List.all_cons, Bool.and_eq_true] at h
    rw [pk, List.length_append, pk_len hd hN l h.2, row_len hd (by rw [← hN]; exact (inB_at h.1).1), List.length_cons, Nat.succ_mul]
    omega
theorem pk_mem {M : Nat} {t d : List Int} {n : Int} : ∀ (b : List Int) (y : Int), y ∈ pk (row t d M) n b → y ∈ d
  | [], y, h => by simp [pk] at h
  | x :: l, y, h => by
    rw [pk] at h
    rcases List.mem_append.1 h with h | h
    · exact List.mem_of_mem_take (List.mem_of_mem_drop h)
    · exact pk_mem l y h
theorem pick_M {n : Int} {t d : List Int} (h : arrayOk (n :: t) d = true) (b : List Int) (hb : b.length ≤ 300) (hi : b.all (inB n) = true) : b.length * (prod t).toNat ≤ 90000 := by
  obtain ⟨f1, f2, f3, f4, f5, f6⟩ := rows_facts h
  cases b with
  | nil => simp
  | cons x l =>
    rw [List.all_cons, Bool.and_eq_true] at hi
    have h0 := (inB_at hi.1).1
    have h1 : (prod t).toNat ≤ n.toNat * (prod t).toNat := Nat.le_mul_of_pos_left _ (by omega)
    have h2 : (x :: l).length * (prod t).toNat ≤ 300 * 300 := Nat.mul_le_mul hb (by omega)
    omega
theorem pick_ok {a b : List Int} {n : Int} {t d : List Int} (ha : arrayOk a b = true) (h : arrayOk (n :: t) d = true) (hi : b.all (inB n) = true) : arrayOk (a ++ t) (pk (row t d (prod t).toNat) n b) = decide (szOf (a ++ t) ≥ 0) := by
  obtain ⟨f1, f2, f3, f4, f5, f6⟩ := rows_facts h
  obtain ⟨g1, g2, g3, g4, g5⟩ := arrayOk_t h
  obtain ⟨k1, k2, k3, k4, k5⟩ := arrayOk_t ha
  obtain ⟨⟨a1, a2⟩, a3⟩ := inR_cons.1 (szOf_nonneg g5).2.1
  have p0 := (prod_le t a3).1
  rw [Bool.eq_iff_iff, decide_eq_true_iff]
  constructor
  · intro hh
    exact (arrayOk_t hh).2.2.2.2
  · intro hs
    unfold arrayOk
    rw [Bool.and_eq_true, decide_eq_true_iff, pk_len f2 rfl b hi]
    refine ⟨?_, List.all_eq_true.2 fun x hx => g2 x (pk_mem b x hx)⟩
    rw [(szOf_nonneg hs).2.2.2, prod_append, Int.natCast_mul, Int.toNat_of_nonneg p0, k1, (szOf_nonneg k5).2.2.2]
theorem pickA_len (a b c d : List Int) : (pickA a b c d).1.length ≤ 1048576 ∧ (pickA a b c d).2.1.length ≤ 1048576 := by
  unfold pickA
  by_cases h : arrayOk a b = true ∧ arrayOk c d = true
  · rw [if_pos h]
    cases c with
    | nil => simp
    | cons n t =>
      obtain ⟨f1, f2, f3, f4, f5, f6⟩ := rows_facts h.2
      obtain ⟨k1, k2, k3, k4, k5⟩ := arrayOk_t h.1
      dsimp only
      by_cases h1 : a.length + t.length > 3
      · rw [if_pos h1]; simp
      rw [if_neg h1]
      unfold pickS
      by_cases h2 : b.all (inB n) = true
      · rw [if_pos h2]
        by_cases h3 : szOf (a ++ t) ≥ 0
        · rw [if_pos h3]
          have := pick_M h.2 b k3 h2
          refine ⟨by dsimp only; rw [List.length_append]; omega, by dsimp only; rw [pk_len f2 rfl b h2]; omega⟩
        · rw [if_neg h3]; simp
      · rw [if_neg h2]; simp
  · rw [if_neg h]; simp
theorem rd_at (p l : List Int) (x : Int) : rd (p ++ x :: l) (p.length : Int) = x := by
  rw [rdn _ _ (by rw [List.length_append, List.length_cons]; omega)]
  simp
theorem at_lt (p l : List Int) (x : Int) : (p.length : Int) < ((p ++ x :: l).length : Int) := by
  rw [List.length_append, List.length_cons]; omega

theorem impl_within_eq (a b c : Int) : impl_within.f a b c = some (decide (b ≤ a ∧ a ≤ c)) := by
  unfold impl_within.f
  by_cases h : a ≥ b
  · rw [if_pos h]; congr 1; rw [Bool.eq_iff_iff, decide_eq_true_iff, decide_eq_true_iff]; omega
  · rw [if_neg h]; congr 1; symm; rw [decide_eq_false_iff_not]; omega

theorem impl_SizeOf_l0 (l : List Int) (hl : ¬ 3 < l.length) (d : Nat) : ∀ (i : Nat), i + d = l.length → inR (l.take i) = true → Ev (fun k => impl_SizeOf.l0 k (prod (l.take i)) l (l.length : Int) (i : Int)) (if inR l = true then (if prod l > 300 then -1 else prod l) else -1) := by
  induction d with
  | zero =>
    intro i hi hr
    have e : l.take i = l := List.take_of_length_le (by omega)
    rw [e] at hr ⊢
    rw [if_pos hr]
    refine Ev.step (f := fun _ => some (if prod l > 300 then -1 else prod l)) (fun k => ?_) (Ev.now _)
    simp only [impl_SizeOf.l0]; rw [if_neg (by omega)]
    by_cases h : prod l > 300
    · rw [if_pos h, if_pos h]
    · rw [if_neg h, if_neg h]
  | succ d ih =>
    intro i hi hr
    have hlt : i < l.length := by omega
    by_cases hx : 0 ≤ l[i] ∧ l[i] ≤ 300
    · have hr' := (inR_take_succ l i hlt).2 ⟨hr, hx⟩
      refine Ev.step (f := fun k => impl_SizeOf.l0 k (prod (l.take (i + 1))) l (l.length : Int) ((i + 1 : Nat) : Int)) (fun k => ?_) (ih (i + 1) (by omega) hr')
      simp only [impl_SizeOf.l0]
      rw [if_pos (by omega), if_pos (by omega), if_pos (by omega), impl_within_eq, rdn l i hlt, decide_eq_true hx]
      simp only [Option.bind_some, if_true]
      have hp := prod_take_le l (i + 1) hl hr'
      rw [w64s i (by omega), ← prod_take_succ l i hlt, w64 (by omega) (by omega)]
    · rw [if_neg (by rw [inR_not i hlt hx]; simp)]
      refine Ev.step (f := fun _ => some (-1)) (fun k => ?_) (Ev.now _)
      simp only [impl_SizeOf.l0]
      rw [if_pos (by omega), if_pos (by omega), if_pos (by omega), impl_within_eq, rdn l i hlt, decide_eq_false hx]
      rfl
theorem impl_SizeOf_ev (l : List Int) : Ev (fun k => impl_SizeOf.f k l) (szOf l) := by
  unfold impl_SizeOf.f szOf
  by_cases h : 3 < l.length
  · rw [if_pos h]; exact evPos (by omega) (Ev.now _)
  · rw [if_neg h]
    refine evNeg (by omega) ?_
    have := impl_SizeOf_l0 l h l.length 0 (by omega) (by simp [inR])
    simpa only [List.take_zero, prod, Int.ofNat_zero, Int.natCast_zero] using this

theorem impl_NumOk_eq (a : Int) : impl_NumOk.f a = some (okN a) := by
  unfold impl_NumOk.f; rw [impl_within_eq]; rfl

def p_ArrayOk1 (x : Int) : Bool := !okN x
theorem lit_ArrayOk1_eq (x : Int) : impl_ArrayOk_lit1.f x = some (p_ArrayOk1 x) := by
  unfold impl_ArrayOk_lit1.f; rw [impl_NumOk_eq]; rfl

theorem slices_IndexFunc_ArrayOk1_l0 (l : List Int) (hl : l.length ≤ 1048576) (d : Nat) : ∀ (i : Nat), i + d = l.length → (l.take i).all (fun x => !p_ArrayOk1 x) = true → ∃ r, Ev (fun k => slices_IndexFunc_ArrayOk1.l0 k l (l.length : Int) (i : Int)) r ∧ decide (r ≥ 0) = l.any p_ArrayOk1 := by
  induction d with
  | zero =>
    intro i hi ht
    refine ⟨-1, Ev.step (f := fun _ => some (-1)) (fun k => ?_) (Ev.now _), ?_⟩
    · simp only [slices_IndexFunc_ArrayOk1.l0]; rw [if_neg (by omega)]
    · have e : l.take i = l := List.take_of_length_le (by omega)
      rw [e] at ht
      symm; rw [show decide ((-1 : Int) ≥ 0) = false by decide, List.any_eq_false]
      intro x hx
      have := List.all_eq_true.1 ht x hx
      simpa using this
  | succ d ih =>
    intro i hi ht
    have hlt : i < l.length := by omega
    by_cases hx : p_ArrayOk1 l[i] = true
    · refine ⟨(i : Int), Ev.step (f := fun _ => some (i : Int)) (fun k => ?_) (Ev.now _), ?_⟩
      · simp only [slices_IndexFunc_ArrayOk1.l0]
        rw [if_pos (by omega), if_pos (by omega), if_pos (by omega), lit_ArrayOk1_eq, rdn l i hlt]; simp only [Option.bind_some]; rw [if_pos hx]
      · rw [decide_eq_true (by omega)]; symm; rw [List.any_eq_true]; exact ⟨_, List.getElem_mem hlt, hx⟩
    · obtain ⟨r, hr, h2⟩ := ih (i + 1) (by omega) (by rw [List.take_succ_eq_append_getElem hlt, List.all_append, ht]; simp [hx])
      refine ⟨r, Ev.step (f := fun k => slices_IndexFunc_ArrayOk1.l0 k l (l.length : Int) ((i + 1 : Nat) : Int)) (fun k => ?_) hr, h2⟩
      simp only [slices_IndexFunc_ArrayOk1.l0]
      rw [if_pos (by omega), if_pos (by omega), if_pos (by omega), lit_ArrayOk1_eq, rdn l i hlt]; simp only [Option.bind_some]; rw [if_neg hx, w64s i (by omega)]
theorem slices_ContainsFunc_ArrayOk1_ev (l : List Int) (hl : l.length ≤ 1048576) : Ev (fun k => slices_ContainsFunc_ArrayOk1.f k l) (l.any p_ArrayOk1) := by
  unfold slices_ContainsFunc_ArrayOk1.f slices_IndexFunc_ArrayOk1.f
  obtain ⟨r, hr, h⟩ := slices_IndexFunc_ArrayOk1_l0 l hl l.length 0 (by omega) (by simp)
  exact Ev.bind hr (evSome h)

theorem all_okN (d : List Int) : (!d.any p_ArrayOk1) = d.all okN := by
  rw [List.not_any_eq_all_not]; congr 1; funext x; simp [p_ArrayOk1]
theorem impl_ArrayOk_ev (s d : List Int) (hd : d.length ≤ 1048576) : Ev (fun k => impl_ArrayOk.f k s d) (arrayOk s d) := by
  unfold impl_ArrayOk.f arrayOk
  refine Ev.bind (impl_SizeOf_ev s) ?_
  by_cases h : (d.length : Int) = szOf s
  · exact evPos h (Ev.bind (slices_ContainsFunc_ArrayOk1_ev d hd) (evSome (by rw [all_okN, decide_eq_true h]; rfl)))
  · exact evNeg h (evSome (by rw [decide_eq_false h]; rfl))

theorem impl_copyArray_eq (s d : List Int) (hs : s.length ≤ 1048576) (hd : d.length ≤ 1048576) : impl_copyArray.f s d = some (s, d) := by
  unfold impl_copyArray.f
  rw [if_pos (by rw [List.length_nil]; omega), if_pos (by rw [List.length_nil]; omega)]; rfl

theorem impl_Rows_l0 (n : Int) (t d : List Int) (N M : Nat) (hn : n = (N : Int)) (hd : N * M = d.length) (hN : N ≤ 300) (hz : 0 < N → szOf t = (M : Int)) (h3 : d.length ≤ 300) (ht : t.length ≤ 2) (c : Nat) : ∀ (i : Nat) (o : List S28), i + c = N → o = (List.range i).map (row t d M) → Ev (fun k => impl_Rows.l0 k (szOf t) o (i : Int) (n :: t) d) (rowsN N t d M) := by
  induction c with
  | zero =>
    intro i o hi ho
    refine Ev.step (fun k => by rw [impl_Rows.l0]) ?_
    refine evPos (by simp only [List.length_cons]; omega) (evNeg ?_ (evSome ?_))
    · show ¬ (i : Int) < n; omega
    · rw [ho, show i = N by omega]; rfl
  | succ c ih =>
    intro i o hi ho
    have h1 : (i + 1) * M ≤ N * M := Nat.mul_le_mul_right _ (by omega)
    have h2 : (i + 1) * M = i * M + M := Nat.succ_mul i M
    have hol : o.length = i := by rw [ho]; simp
    refine Ev.step (fun k => by rw [impl_Rows.l0]) ?_
    refine evPos (by simp only [List.length_cons]; omega) (evPos ?_ (evPos (by simp only [List.length_cons]; omega) ?_))
    · show (i : Int) < n; omega
    rw [hz (by omega), w64s i (by omega), wmul i M (by omega), wmul (i + 1) M (by omega), Int.toNat_natCast, Int.toNat_natCast]
    refine evPos (by omega) (evPos (by omega) (evPos (by omega) (evBind0 (impl_copyArray_eq _ _ (by simp; omega) (by simp; omega)) ?_)))
    refine evPos (by omega) ?_
    rw [← hz (by omega)]
    exact ih (i + 1) _ (by omega) (by rw [ho, List.range_succ, List.map_append]; rfl)
theorem impl_Rows_ev (s d : List Int) (hd : d.length ≤ 1048576) : Ev (fun k => impl_Rows.f k s d) (rows s d) := by
  unfold impl_Rows.f
  refine Ev.bind (impl_ArrayOk_ev s d hd) ?_
  have hbad : Ev (fun k => impl_Rows.j0 k true s d) ([] : List S28) := Ev.step (fun k => by rw [impl_Rows.j0]) (evPos rfl (Ev.now _))
  cases s with
  | nil =>
    by_cases h : arrayOk [] d = true
    · exact evPos h hbad
    · exact evNeg h hbad
  | cons n t =>
    rw [rows_cons]
    by_cases h : arrayOk (n :: t) d = true
    · obtain ⟨f1, f2, f3, f4, f5, f6⟩ := rows_facts h
      rw [if_pos h]
      have e : (((n :: t).length : Int) == 0) = false := by
        rw [beq_eq_false_iff_ne]; simp only [List.length_cons]; omega
      refine evPos h ?_
      rw [e]
      refine Ev.step (fun k => by rw [impl_Rows.j0]) ?_
      refine evNeg (by simp) (evPos (by simp only [List.length_cons]; omega) (Ev.bind (impl_SizeOf_ev t) ?_))
      exact impl_Rows_l0 n t d n.toNat (prod t).toNat (Int.toNat_of_nonneg f1).symm f2 f3 f4 f5 f6 n.toNat 0 [] (by omega) rfl
    · rw [if_neg h]; exact evNeg h hbad

theorem slices_Concat_ev (a t : List Int) (ha : a.length ≤ 1000) (ht : t.length ≤ 1000) : Ev (fun k => slices_Concat_int_int.f k [a, t]) (a ++ t) := by
  unfold slices_Concat_int_int.f
  have r0 : rd_L1 [a, t] 0 = a := rfl
  have r1 : rd_L1 [a, t] 1 = t := rfl
  have l2 : (([a, t] : List (List Int)).length : Int) = 2 := rfl
  have w1 : wrap64 (0 + 1) = 1 := by rw [w64] <;> omega
  have w2 : wrap64 (1 + 1) = 2 := by rw [w64] <;> omega
  have s0 : wrap64 (0 + (a.length : Int)) = (a.length : Int) := by rw [w64] <;> omega
  have s1 : wrap64 ((a.length : Int) + (t.length : Int)) = (a.length : Int) + (t.length : Int) := by rw [w64] <;> omega
  rw [l2]
  refine Ev.step (fun k => by rw [slices_Concat_int_int.l0]) ?_
  rw [l2, r0, s0, w1]
  refine evPos (by omega) (evPos (by omega) (evPos (by omega) (evNeg (by omega) ?_)))
  refine Ev.step (fun k => by rw [slices_Concat_int_int.l0]) ?_
  rw [l2, r1, s1, w2]
  refine evPos (by omega) (evPos (by omega) (evPos (by omega) (evNeg (by omega) ?_)))
  refine Ev.step (fun k => by rw [slices_Concat_int_int.l0]) ?_
  refine evNeg (by omega) (evPos (by omega) (evPos (by omega) (evPos (by omega) ?_)))
  refine Ev.step (fun k => by rw [slices_Concat_int_int.l1]) ?_
  rw [l2, r0, w1]
  refine evPos (by omega) (evPos (by omega) (evPos (by omega) (evPos (by simp only [List.length_replicate]; omega) ?_)))
  refine Ev.step (fun k => by rw [slices_Concat_int_int.l1]) ?_
  rw [l2, r1, w2]
  refine evPos (by omega) (evPos (by omega) (evPos (by omega) (evPos (by simp only [List.length_append, List.length_replicate]; omega) ?_)))
  refine Ev.step (fun k => by rw [slices_Concat_int_int.l1]) (evNeg (by omega) (evSome ?_))
  simp

theorem impl_Pick_l0 (n : Int) (t d s : List Int) (h : arrayOk (n :: t) d = true) (l : List Int) : ∀ (p o : List Int), (∀ x ∈ l, okN x = true) → p.length + l.length ≤ 300 → o.length ≤ p.length * 300 → Ev (fun k => impl_Pick.l0 k (rowsN n.toNat t d (prod t).toNat) (p ++ l) ((p ++ l).length : Int) (p.length : Int) s o) (if l.all (inB n) = true then (if arrayOk s (o ++ pk (row t d (prod t).toNat) n l) = true then (s, o ++ pk (row t d (prod t).toNat) n l, 0) else ([], [], 6)) else ([], [], 5)) := by
  obtain ⟨f1, f2, f3, f4, f5, f6⟩ := rows_facts h
  have hL := rowsN_length n.toNat t d (prod t).toNat
  induction l with
  | nil =>
    intro p o _ hp ho
    refine Ev.step (fun k => by rw [impl_Pick.l0]) (evNeg (by simp) (Ev.bind (impl_ArrayOk_ev s o (by omega)) ?_))
    rw [show pk (row t d (prod t).toNat) n [] = [] from rfl, List.append_nil, if_pos (show [].all (inB n) = true from rfl)]
    by_cases h1 : arrayOk s o = true
    · exact evEq (evPos h1 (Ev.now _)) (if_pos h1).symm
    · exact evEq (evNeg h1 (Ev.now _)) (if_neg h1).symm
  | cons x l ih =>
    intro p o hk hp ho
    rw [List.length_cons] at hp
    have hx := okN_t (hk x (List.mem_cons_self ..))
    have go : ∀ (i : Int), inB n x = true → i = (atI n x : Int) → Ev (fun k => if 0 ≤ i then (if i < ((rowsN n.toNat t d (prod t).toNat).length : Int) then (if o.length + ((rd_T28 (rowsN n.toNat t d (prod t).toNat) i).f1).length < 17592186044416 then (impl_Pick.l0 k (rowsN n.toNat t d (prod t).toNat) (p ++ x :: l) ((p ++ x :: l).length : Int) (wrap64 ((p.length : Int) + 1)) s (o ++ ((rd_T28 (rowsN n.toNat t d (prod t).toNat) i).f1))) else none) else none) else none) (if (x :: l).all (inB n) = true then (if arrayOk s (o ++ pk (row t d (prod t).toNat) n (x :: l)) = true then (s, o ++ pk (row t d (prod t).toNat) n (x :: l), 0) else ([], [], 6)) else ([], [], 5)) := by
      intro i hi e
      subst e
      have h1 := (inB_at hi).1
      have hr := row_len (t := t) f2 h1
      have hM : (prod t).toNat ≤ 300 := by
        have : (prod t).toNat ≤ n.toNat * (prod t).toNat := Nat.le_mul_of_pos_left _ (by omega)
        omega
      rw [rowsN_rd n.toNat t d (prod t).toNat (atI n x) h1, hL]
      refine evPos (by omega) (evPos (by omega) (evPos (by omega) ?_))
      have := ih (p ++ [x]) (o ++ (row t d (prod t).toNat (atI n x)).f1) (fun y hy => hk y (List.mem_cons_of_mem _ hy)) (by rw [List.length_append, List.length_singleton]; omega) (by rw [List.length_append, List.length_append, List.length_singleton, hr]; omega)
      rw [show (p ++ [x]).length = p.length + 1 from by simp, show p ++ [x] ++ l = p ++ x :: l from by simp, List.append_assoc] at this
      rw [w64s _ (by omega), List.all_cons, hi, Bool.true_and, pk]
      exact this
    have bad : inB n x = false → Ev (fun _ : Nat => some (([] : List Int), ([] : List Int), (5 : Int))) (if (x :: l).all (inB n) = true then (if arrayOk s (o ++ pk (row t d (prod t).toNat) n (x :: l)) = true then (s, o ++ pk (row t d (prod t).toNat) n (x :: l), 0) else ([], [], 6)) else ([], [], 5)) := by
      intro hf
      refine evSome ?_
      rw [List.all_cons, hf, Bool.false_and, if_neg (by simp)]
    refine Ev.step (fun k => by rw [impl_Pick.l0]) ?_
    rw [rd_at, hL]
    refine evPos (at_lt p l x) (evPos (by omega) (evPos (at_lt p l x) ?_))
    rw [w64 (x := x + (n.toNat : Int)) (by omega) (by omega), w64 (x := (n.toNat : Int) - 1) (by omega) (by omega)]
    by_cases h1 : x < 0
    · refine evPos h1 (evBind0 (impl_within_eq _ _ _) ?_)
      by_cases h2 : 0 ≤ x + (n.toNat : Int) ∧ x + (n.toNat : Int) ≤ (n.toNat : Int) - 1
      · have hi : inB n x = true := decide_eq_true (by omega)
        have := go (x + (n.toNat : Int)) hi (by rw [(inB_at hi).2, if_pos h1]; omega)
        rw [hL] at this
        exact evPos (decide_eq_true h2) this
      · exact evNeg (by simpa using h2) (bad (decide_eq_false (by omega)))
    · refine evNeg h1 (evBind0 (impl_within_eq _ _ _) ?_)
      by_cases h2 : 0 ≤ x ∧ x ≤ (n.toNat : Int) - 1
      · have hi : inB n x = true := decide_eq_true (by omega)
        have := go x hi (by rw [(inB_at hi).2, if_neg h1])
        rw [hL] at this
        exact evPos (decide_eq_true h2) this
      · exact evNeg (by simpa using h2) (bad (decide_eq_false (by omega)))
theorem impl_Pick_ev (a b c d : List Int) (hb : b.length ≤ 1048576) (hd : d.length ≤ 1048576) : Ev (fun k => impl_Pick.f k a b c d) (pickA a b c d) := by
  unfold impl_Pick.f pickA
  refine Ev.bind (impl_ArrayOk_ev a b hb) ?_
  have hbad : Ev (fun k => impl_Pick.j0 k true a b c d) ([], [], 1) := Ev.step (fun k => by rw [impl_Pick.j0]) (evPos rfl (Ev.now _))
  by_cases h1 : arrayOk a b = true
  · refine evPos h1 (Ev.bind (impl_ArrayOk_ev c d hd) ?_)
    by_cases h2 : arrayOk c d = true
    · rw [h2]
      refine evEq ?_ (if_pos (And.intro h1 rfl)).symm
      obtain ⟨k1, k2, k3, k4, k5⟩ := arrayOk_t h1
      refine Ev.step (fun k => by rw [impl_Pick.j0]) (evNeg (by simp) ?_)
      cases c with
      | nil => exact evPos rfl (Ev.now _)
      | cons n t =>
        obtain ⟨f1, f2, f3, f4, f5, f6⟩ := rows_facts h2
        refine evNeg (by simp only [List.length_cons]; omega) ?_
        simp only [List.length_cons]
        rw [w64 (x := (a.length : Int) + ((t.length + 1 : Nat) : Int)) (by omega) (by omega), w64 (x := (a.length : Int) + ((t.length + 1 : Nat) : Int) - 1) (by omega) (by omega)]
        by_cases h3 : a.length + t.length > 3
        · exact evEq (evPos (by omega) (Ev.now _)) (if_pos h3).symm
        · refine evEq (evNeg (by omega) (Ev.bind (impl_Rows_ev (n :: t) d hd) (evPos (by omega) ?_))) (if_neg h3).symm
          rw [List.drop_succ_cons, List.drop_zero, rows_cons, if_pos h2]
          refine Ev.bind (slices_Concat_ev a t (by omega) (by omega)) ?_
          have := impl_Pick_l0 n t d (a ++ t) h2 b [] [] k2 (by simp only [List.length_nil]; omega) (by simp)
          rw [List.nil_append, List.nil_append] at this
          refine evEq this ?_
          unfold pickS
          by_cases h4 : b.all (inB n) = true
          · rw [if_pos h4, if_pos h4, pick_ok h1 h2 h4]
            by_cases h5 : szOf (a ++ t) ≥ 0
            · rw [if_pos (decide_eq_true h5), if_pos h5]
            · rw [if_neg (by simpa using h5), if_neg h5]
          · rw [if_neg h4, if_neg h4]
    · rw [Bool.eq_false_iff.2 h2]
      exact evEq hbad (if_neg (fun hh : _ ∧ _ => absurd hh.2 (by simp))).symm
  · exact evEq (evNeg h1 hbad) (if_neg (fun hh : _ ∧ _ => h1 hh.1)).symm

theorem spec_l1In_eq (a b c : Int) : spec_l1In.f a b c = some (decide (b ≤ a ∧ a ≤ c)) := by
  unfold spec_l1In.f
  by_cases h : a ≥ b
  · rw [if_pos h]; congr 1; rw [Bool.eq_iff_iff, decide_eq_true_iff, decide_eq_true_iff]; omega
  · rw [if_neg h]; congr 1; symm; rw [decide_eq_false_iff_not]; omega

theorem spec_SizeOf_l1 (l : List Int) (hl : ¬ 3 < l.length) (z : Bool) (hr : inR l = true) (hz : z = true → prod l = 0) (d : Nat) : ∀ (i : Nat), i + d = l.length → Ev (fun k => spec_SizeOf.l1 k l z (prod (l.take i)) (i : Int)) (if prod l > 300 then -1 else prod l) := by
  induction d with
  | zero =>
    intro i hi
    have e : l.take i = l := List.take_of_length_le (by omega)
    rw [e]
    refine Ev.step (f := fun _ => some (if prod l > 300 then -1 else prod l)) (fun k => ?_) (Ev.now _)
    simp only [spec_SizeOf.l1]; rw [if_neg (by omega)]
    by_cases h : prod l > 300
    · rw [if_pos h, if_pos h]
      rw [if_neg (by intro hh; have := hz hh; omega)]
    · rw [if_neg h, if_neg h]
  | succ d ih =>
    intro i hi
    have hlt : i < l.length := by omega
    have hr' := inR_take (i + 1) hr
    refine Ev.step (f := fun k => spec_SizeOf.l1 k l z (prod (l.take (i + 1))) ((i + 1 : Nat) : Int)) (fun k => ?_) (ih (i + 1) (by omega))
    simp only [spec_SizeOf.l1]
    have hp := prod_take_le l (i + 1) hl hr'
    rw [if_pos (by omega), if_pos (by omega), rdn l i hlt, w64s i (by omega), ← prod_take_succ l i hlt, w64 (by omega) (by omega)]
theorem prod_zero (l : List Int) (h : l.any (· == 0) = true) : prod l = 0 := by
  induction l with
  | nil => simp at h
  | cons a l ih =>
    rw [List.any_cons, Bool.or_eq_true] at h
    rcases h with h | h
    · have : a = 0 := by simpa using h
      rw [prod, this, Int.zero_mul]
    · rw [prod, ih h, Int.mul_zero]
theorem spec_SizeOf_l0 (l : List Int) (hl : ¬ 3 < l.length) (d : Nat) : ∀ (i : Nat) (z : Bool), i + d = l.length → inR (l.take i) = true → z = (l.take i).any (· == 0) → Ev (fun k => spec_SizeOf.l0 k l z (i : Int)) (if inR l = true then (if prod l > 300 then -1 else prod l) else -1) := by
  induction d with
  | zero =>
    intro i z hi hr hz
    have e : l.take i = l := List.take_of_length_le (by omega)
    rw [e] at hr hz
    rw [if_pos hr]
    refine Ev.step (f := fun k => spec_SizeOf.l1 k l z 1 0) (fun k => ?_) ?_
    · simp only [spec_SizeOf.l0]; rw [if_neg (by omega)]
    · exact spec_SizeOf_l1 l hl z hr (fun h => prod_zero l (by rw [← hz]; exact h)) l.length 0 (by omega)
  | succ d ih =>
    intro i z hi hr hz
    have hlt : i < l.length := by omega
    by_cases hx : 0 ≤ l[i] ∧ l[i] ≤ 300
    · have hr' := (inR_take_succ l i hlt).2 ⟨hr, hx⟩
      refine Ev.step (f := fun k => spec_SizeOf.l0 k l ((l.take (i + 1)).any (· == 0)) ((i + 1 : Nat) : Int)) (fun k => ?_) (ih (i + 1) _ (by omega) hr' rfl)
      simp only [spec_SizeOf.l0]
      rw [if_pos (by omega), if_pos (by omega), spec_l1In_eq, rdn l i hlt, decide_eq_true hx]
      simp only [Option.bind_some, if_true]
      rw [w64s i (by omega), List.take_succ_eq_append_getElem hlt, List.any_append, ← hz]
      cases z with
      | true => simp
      | false => simp
    · rw [if_neg (by rw [inR_not i hlt hx]; simp)]
      refine Ev.step (f := fun _ => some (-1)) (fun k => ?_) (Ev.now _)
      simp only [spec_SizeOf.l0]
      rw [if_pos (by omega), if_pos (by omega), spec_l1In_eq, rdn l i hlt, decide_eq_false hx]
      rfl
theorem spec_SizeOf_ev (l : List Int) : Ev (fun k => spec_SizeOf.f k l) (szOf l) := by
  unfold spec_SizeOf.f szOf
  by_cases h : 3 < l.length
  · rw [if_pos h]; exact evPos (by omega) (Ev.now _)
  · rw [if_neg h]
    refine evNeg (by omega) ?_
    exact spec_SizeOf_l0 l h l.length 0 false (by omega) (by simp [inR]) (by simp)

theorem spec_NumOk_eq (a : Int) : spec_NumOk.f a = some (okN a) := by
  unfold spec_NumOk.f; rw [spec_l1In_eq]; rfl

theorem spec_ArrayOk_l0 (s l : List Int) (hl : l.length ≤ 1048576) (d : Nat) : ∀ (i : Nat), i + d = l.length → (l.take i).all okN = true → Ev (fun k => spec_ArrayOk.l0 k (i : Int) s l) (l.all okN) := by
  induction d with
  | zero =>
    intro i hi ht
    refine Ev.step (f := fun _ => some true) (fun k => ?_) (evSome ?_)
    · simp only [spec_ArrayOk.l0]; rw [if_neg (by omega)]
    · rw [List.take_of_length_le (by omega)] at ht; exact ht.symm
  | succ d ih =>
    intro i hi ht
    have hlt : i < l.length := by omega
    by_cases hx : okN l[i] = true
    · refine Ev.step (f := fun k => spec_ArrayOk.l0 k ((i + 1 : Nat) : Int) s l) (fun k => ?_) (ih (i + 1) (by omega) (by rw [List.take_succ_eq_append_getElem hlt, List.all_append, ht]; simp [hx]))
      simp only [spec_ArrayOk.l0]
      rw [if_pos (by omega), if_pos (by omega), spec_NumOk_eq, rdn l i hlt]; simp only [Option.bind_some]; rw [if_pos hx, w64s i (by omega)]
    · refine Ev.step (f := fun _ => some false) (fun k => ?_) (evSome ?_)
      · simp only [spec_ArrayOk.l0]
        rw [if_pos (by omega), if_pos (by omega), spec_NumOk_eq, rdn l i hlt]; simp only [Option.bind_some]; rw [if_neg hx]
      · symm; rw [List.all_eq_false]; exact ⟨_, List.getElem_mem hlt, hx⟩
theorem spec_ArrayOk_ev (s d : List Int) (hd : d.length ≤ 1048576) : Ev (fun k => spec_ArrayOk.f k s d) (arrayOk s d) := by
  unfold spec_ArrayOk.f arrayOk
  refine Ev.bind (spec_SizeOf_ev s) ?_
  by_cases h : szOf s = (d.length : Int)
  · refine evPos h (evEq (spec_ArrayOk_l0 s d hd d.length 0 (by omega) (by simp)) ?_)
    rw [decide_eq_true h.symm]; rfl
  · exact evNeg h (evSome (by rw [decide_eq_false (fun e => h e.symm)]; rfl))

theorem spec_ShapeOk_ev (l : List Int) : Ev (fun k => spec_ShapeOk.f k l) (decide (szOf l ≥ 0)) := by
  unfold spec_ShapeOk.f
  exact Ev.bind (spec_SizeOf_ev l) (Ev.now _)

theorem spec_l3Rows_l0 (n : Int) (t d : List Int) (N M : Nat) (hn : n = (N : Int)) (hd : N * M = d.length) (hN : N ≤ 300) (hz : 0 < N → szOf t = (M : Int)) (h3 : d.length ≤ 300) (ht : t.length ≤ 2) (c : Nat) : ∀ (i : Nat) (o : List S28), i + c = N → o = (List.range i).map (row t d M) → Ev (fun k => spec_l3Rows.l0 k o (szOf t) (i : Int) (n :: t) d) (rowsN N t d M) := by
  induction c with
  | zero =>
    intro i o hi ho
    refine Ev.step (fun k => by rw [spec_l3Rows.l0]) ?_
    refine evPos (by simp only [List.length_cons]; omega) (evNeg ?_ (evSome ?_))
    · show ¬ (i : Int) < n; omega
    · rw [ho, show i = N by omega]; rfl
  | succ c ih =>
    intro i o hi ho
    have h1 : (i + 1) * M ≤ N * M := Nat.mul_le_mul_right _ (by omega)
    have h2 : (i + 1) * M = i * M + M := Nat.succ_mul i M
    have hol : o.length = i := by rw [ho]; simp
    have hiN : (i : Int) < n := by omega
    have hL : t.length < 17592186044416 := by omega
    have hO : o.length < 2932031007402 := by omega
    have hN0 : 0 < N := by omega
    have hM1 : i * M ≤ 1048576 := by omega
    have q1 : (0 : Int) ≤ ((i * M : Nat) : Int) := by omega
    have q2 : ((i * M : Nat) : Int) ≤ (((i + 1) * M : Nat) : Int) := by omega
    have q3 : (((i + 1) * M : Nat) : Int) ≤ (d.length : Int) := by omega
    have q4 : (i + 1) * M - i * M < 17592186044416 := by omega
    have q5 : (i + 1) * M ≤ d.length := by omega
    have q6 : wrap64 ((i : Int) + 1) = ((i + 1 : Nat) : Int) ∧ (i + 1) + c = N := ⟨w64s i (by omega), by omega⟩
    have hw : wrap64 (((i * M : Nat) : Int) + (M : Int)) = (((i + 1) * M : Nat) : Int) := by
      rw [h2] at h1 ⊢
      rw [w64 (by omega) (by omega), Int.natCast_add]
    have e1 : wrap64 ((i : Int) * szOf t) = ((i * M : Nat) : Int) := by rw [hz hN0, wmul i M hM1]
    have e2 : wrap64 (wrap64 ((i : Int) * szOf t) + szOf t) = (((i + 1) * M : Nat) : Int) := by rw [e1, hz hN0, hw]
    refine Ev.step (fun k => by rw [spec_l3Rows.l0]) ?_
    simp only [Option.bind_some, List.length_nil, List.nil_append, Nat.zero_add, List.drop_succ_cons, List.drop_zero]
    refine evPos (by simp only [List.length_cons]; exact Int.natCast_pos.2 (Nat.succ_pos _)) ?_
    refine evPos (show (i : Int) < n from hiN) ?_
    refine evPos (by simp only [List.length_cons]; exact Int.natCast_pos.2 (Nat.succ_pos _)) ?_
    refine evPos hL ?_
    refine evPos (by rw [e1]; exact q1) ?_
    refine evPos (by rw [e2, e1]; exact q2) ?_
    refine evPos (by rw [e2]; exact q3) ?_
    refine evPos (by rw [e2, e1, Int.toNat_natCast, Int.toNat_natCast, List.length_drop, List.length_take, Nat.min_eq_left q5]; exact q4) ?_
    refine evPos hO ?_
    rw [e2, e1, Int.toNat_natCast, Int.toNat_natCast, q6.1]
    exact ih (i + 1) _ q6.2 (by rw [ho, List.range_succ, List.map_append]; rfl)
theorem spec_l3Rows_ev (n : Int) (t d : List Int) (h : arrayOk (n :: t) d = true) : Ev (fun k => spec_l3Rows.f k (n :: t) d) (rowsN n.toNat t d (prod t).toNat) := by
  obtain ⟨f1, f2, f3, f4, f5, f6⟩ := rows_facts h
  unfold spec_l3Rows.f
  refine evPos (by simp only [List.length_cons]; omega) (Ev.bind (spec_SizeOf_ev t) ?_)
  exact spec_l3Rows_l0 n t d n.toNat (prod t).toNat (Int.toNat_of_nonneg f1).symm f2 f3 f4 f5 f6 n.toNat 0 [] (by omega) rfl

theorem spec_Pick_l1 (n : Int) (a t d s : List Int) (h : arrayOk (n :: t) d = true) (l : List Int) : ∀ (p o : List Int), l.all (inB n) = true → p.length + l.length ≤ 300 → o.length ≤ p.length * 300 → Ev (fun k => spec_Pick.l1 k n (rowsN n.toNat t d (prod t).toNat) (p.length : Int) a (p ++ l) s o) (s, o ++ pk (row t d (prod t).toNat) n l, 0) := by
  obtain ⟨f1, f2, f3, f4, f5, f6⟩ := rows_facts h
  have hL := rowsN_length n.toNat t d (prod t).toNat
  induction l with
  | nil =>
    intro p o _ hp ho
    refine Ev.step (fun k => by rw [spec_Pick.l1]) (evNeg (by simp) (evSome ?_))
    rw [show pk (row t d (prod t).toNat) n [] = [] from rfl, List.append_nil]
  | cons x l ih =>
    intro p o hk hp ho
    rw [List.length_cons] at hp
    rw [List.all_cons, Bool.and_eq_true] at hk
    have h1 := (inB_at hk.1).1
    have h2 := of_decide_eq_true hk.1
    have hr := row_len (t := t) f2 h1
    have hM : (prod t).toNat ≤ 300 := by
      have : (prod t).toNat ≤ n.toNat * (prod t).toNat := Nat.le_mul_of_pos_left _ (by omega)
      omega
    have em : Int.tmod (wrap64 (x + n)) n = (atI n x : Int) := by
      rw [w64 (x := x + n) (by omega) (by omega), Int.tmod_eq_emod_of_nonneg (by omega), (inB_at hk.1).2]
      by_cases h3 : x < 0
      · rw [if_pos h3, Int.emod_eq_of_lt (by omega) (by omega)]
      · rw [if_neg h3, Int.add_emod_right, Int.emod_eq_of_lt (by omega) (by omega)]
    refine Ev.step (fun k => by rw [spec_Pick.l1]) ?_
    rw [rd_at, em, rowsN_rd n.toNat t d (prod t).toNat (atI n x) h1, hL]
    refine evPos (at_lt p l x) (evPos (by omega) (evNeg (by omega) (evPos (by omega) (evPos (by omega) (evPos (by omega) ?_)))))
    have := ih (p ++ [x]) (o ++ (row t d (prod t).toNat (atI n x)).f1) hk.2 (by rw [List.length_append, List.length_singleton]; omega) (by rw [List.length_append, List.length_append, List.length_singleton, hr]; omega)
    rw [show (p ++ [x]).length = p.length + 1 from by simp, show p ++ [x] ++ l = p ++ x :: l from by simp, List.append_assoc] at this
    rw [w64s _ (by omega), pk]
    exact this
theorem spec_Pick_l0 (n : Int) (a t d b : List Int) (hn : 0 ≤ n ∧ n ≤ 300) (v : List Int × List Int × Int) (hb : b.length ≤ 300) (hgo : b.all (inB n) = true → Ev (fun k => spec_Pick.l0 k n (b.length : Int) a b (n :: t) d) v) (hbad : ¬ b.all (inB n) = true → v = ([], [], 5)) (l : List Int) : ∀ (p : List Int), b = p ++ l → p.all (inB n) = true → Ev (fun k => spec_Pick.l0 k n (p.length : Int) a b (n :: t) d) v := by
  induction l with
  | nil =>
    intro p e hp
    rw [List.append_nil] at e
    subst e
    exact hgo hp
  | cons x l ih =>
    intro p e hp
    have hlen : b.length = p.length + (l.length + 1) := by rw [e, List.length_append, List.length_cons]
    refine Ev.step (fun k => by rw [spec_Pick.l0]) (evPos (by omega) (evPos (by omega) (evBind0 (spec_l1In_eq _ _ _) ?_)))
    have ex : rd b (p.length : Int) = x := by rw [e, rd_at]
    rw [ex, w64 (x := -n) (by omega) (by omega), w64 (x := n - 1) (by omega) (by omega), w64s _ (by omega)]
    by_cases hx : inB n x = true
    · refine evPos hx ?_
      have := ih (p ++ [x]) (by rw [e]; simp) (by rw [List.all_append, hp, List.all_cons, hx]; rfl)
      rw [List.length_append, List.length_singleton] at this
      exact this
    · refine evNeg hx (evSome (hbad ?_).symm)
      rw [e, List.all_append, List.all_cons, Bool.eq_false_iff.2 hx]
      simp
theorem spec_Pick_tail (n : Int) (a t d b : List Int) (ha : a.length ≤ 3) (hb : b.length ≤ 300) (h : arrayOk (n :: t) d = true) (hi : b.all (inB n) = true) : Ev (fun k => spec_Pick.l0 k n (b.length : Int) a b (n :: t) d) (if szOf (a ++ t) ≥ 0 then (a ++ t, pk (row t d (prod t).toNat) n b, 0) else ([], [], 6)) := by
  obtain ⟨f1, f2, f3, f4, f5, f6⟩ := rows_facts h
  refine Ev.step (fun k => by rw [spec_Pick.l0]) (evNeg (by omega) ?_)
  refine evLet (evPos (by simp only [List.length_nil]; omega) (evLet (evPos (by simp only [List.length_cons]; omega) ?_)))
  rw [List.drop_succ_cons, List.drop_zero, List.nil_append]
  refine evPos (by omega) (evLet (Ev.bind (spec_l3Rows_ev n t d h) (Ev.bind (spec_ShapeOk_ev (a ++ t)) ?_)))
  by_cases h1 : szOf (a ++ t) ≥ 0
  · have := spec_Pick_l1 n a t d (a ++ t) h b [] [] hi (by simp only [List.length_nil]; omega) (by simp)
    rw [List.nil_append, List.nil_append] at this
    exact evEq (evPos (decide_eq_true h1) this) (if_pos h1).symm
  · exact evEq (evNeg (by simpa using h1) (Ev.now _)) (if_neg h1).symm
theorem spec_Pick_ev (a b c d : List Int) (hb : b.length ≤ 1048576) (hd : d.length ≤ 1048576) : Ev (fun k => spec_Pick.f k a b c d) (pickA a b c d) := by
  unfold spec_Pick.f pickA
  refine Ev.bind (spec_ArrayOk_ev a b hb) ?_
  have hbad : Ev (fun k => spec_Pick.j0 k true a b c d) ([], [], 1) := Ev.step (fun k => by rw [spec_Pick.j0]) (evPos rfl (Ev.now _))
  by_cases h1 : arrayOk a b = true
  · refine evPos h1 (Ev.bind (spec_ArrayOk_ev c d hd) ?_)
    by_cases h2 : arrayOk c d = true
    · rw [h2]
      refine evEq ?_ (if_pos (And.intro h1 rfl)).symm
      obtain ⟨k1, k2, k3, k4, k5⟩ := arrayOk_t h1
      refine Ev.step (fun k => by rw [spec_Pick.j0]) (evNeg (by simp) ?_)
      cases c with
      | nil => exact evPos rfl (Ev.now _)
      | cons n t =>
        obtain ⟨f1, f2, f3, f4, f5, f6⟩ := rows_facts h2
        refine evNeg (by simp only [List.length_cons]; omega) ?_
        simp only [List.length_cons]
        rw [w64 (x := (a.length : Int) + ((t.length + 1 : Nat) : Int)) (by omega) (by omega), w64 (x := (a.length : Int) + ((t.length + 1 : Nat) : Int) - 1) (by omega) (by omega)]
        by_cases h3 : a.length + t.length > 3
        · exact evEq (evPos (by omega) (Ev.now _)) (if_pos h3).symm
        · refine evEq (evNeg (by omega) (evPos (by omega) ?_)) (if_neg h3).symm
          rw [show rd (n :: t) 0 = n from rfl]
          refine spec_Pick_l0 n a t d b ⟨f1, by omega⟩ _ k3 (fun h4 => ?_) (fun h4 => ?_) b [] rfl rfl
          · unfold pickS
            rw [if_pos h4]
            exact spec_Pick_tail n a t d b k4 k3 h2 h4
          · unfold pickS
            rw [if_neg h4]
    · rw [Bool.eq_false_iff.2 h2]
      exact evEq hbad (if_neg (fun hh : _ ∧ _ => absurd hh.2 (by simp))).symm
  · exact evEq (evNeg h1 hbad) (if_neg (fun hh : _ ∧ _ => h1 hh.1)).symm

theorem laws_szIntS_eq (a : List Int) (n : Int) (ha : a.length ≤ 9223372036854775807) (h0 : 0 ≤ n) (h1 : n ≤ 1048576) : ∃ v, laws_szIntS.f a n = some v ∧ (v < 0 ∨ (0 ≤ v ∧ v ≤ n ∧ a.length ≤ 1048576)) := by
  unfold laws_szIntS.f
  rw [w64 (by omega) (by omega)]
  by_cases h : n - (a.length : Int) < 0
  · rw [if_pos h]; exact ⟨_, rfl, .inl (by omega)⟩
  · rw [if_neg h]; exact ⟨_, rfl, .inr (by omega)⟩
theorem laws_szArray_eq (a b : List Int) (n : Int) (ha : a.length ≤ 9223372036854775807) (hb : b.length ≤ 9223372036854775807) (h0 : 0 ≤ n) (h1 : n ≤ 1048576) : ∃ v, laws_szArray.f a b n = some v ∧ (v < 0 ∨ (0 ≤ v ∧ v ≤ 1048576 ∧ a.length ≤ 1048576 ∧ b.length ≤ 1048576)) := by
  unfold laws_szArray.f
  obtain ⟨v, hv, h⟩ := laws_szIntS_eq a n ha h0 h1
  rw [hv, Option.bind_some]
  rcases h with h | ⟨h2, h3, h4⟩
  · rw [if_pos h]; exact ⟨_, rfl, .inl (by omega)⟩
  · rw [if_neg (by omega)]
    obtain ⟨u, hu, h5⟩ := laws_szIntS_eq b v hb h2 (by omega)
    rw [hu, Option.bind_some]
    rcases h5 with h5 | ⟨h6, h7, h8⟩
    · rw [if_pos h5]; exact ⟨_, rfl, .inl (by omega)⟩
    · rw [if_neg (by omega)]; exact ⟨_, rfl, .inr (by omega)⟩

theorem laws_toIntS_l0 (l : List Int) (hl : l.length ≤ 35184372088832) (d : Nat) : ∀ (i : Nat) (m : List Int), i + d = l.length → m.length = l.length → m.take i = l.take i → Ev (fun k => laws_toIntS.l0 k l m (i : Int)) l := by
  induction d with
  | zero =>
    intro i m hi hm ht
    have e : m = l := by rw [List.take_of_length_le (by omega), List.take_of_length_le (by omega)] at ht; exact ht
    refine Ev.step (f := fun _ => some l) (fun k => ?_) (Ev.now _)
    simp only [laws_toIntS.l0]; rw [if_neg (by omega), e]
  | succ d ih =>
    intro i m hi hm ht
    have hlt : i < l.length := by omega
    refine Ev.step (f := fun k => laws_toIntS.l0 k l (m.set i l[i]) ((i + 1 : Nat) : Int)) (fun k => ?_) (ih (i + 1) (m.set i l[i]) (by omega) (by rw [List.length_set, hm]) ?_)
    · simp only [laws_toIntS.l0]
      rw [if_pos (by omega), if_pos (by omega), if_pos (by omega), rdn l i hlt, w64s i (by omega), Int.toNat_natCast]
    · rw [List.take_succ_eq_append_getElem (l := m.set i l[i]) (i := i) (by rw [List.length_set]; omega), List.take_succ_eq_append_getElem hlt, List.getElem_set_self, List.take_set_of_le (Nat.le_refl i), ht]
theorem laws_toIntS_ev (l : List Int) (hl : l.length ≤ 35184372088832) : Ev (fun k => laws_toIntS.f k l) l := by
  unfold laws_toIntS.f
  refine evPos (by omega) (evPos (by omega) ?_)
  exact laws_toIntS_l0 l hl l.length 0 _ (by omega) (by simp) (by simp)

theorem laws_toArray_ev (a b : List Int) (ha : a.length ≤ 1048576) (hb : b.length ≤ 1048576) : Ev (fun k => laws_toArray.f k a b) (a, b) := by
  unfold laws_toArray.f
  exact Ev.bind (laws_toIntS_ev a (by omega)) (Ev.bind (laws_toIntS_ev b (by omega)) (Ev.now _))

theorem laws_eqIntS_l0 (l m : List Int) (hl : l.length ≤ 35184372088832) (hm : l.length = m.length) (d : Nat) : ∀ (i : Nat), i + d = l.length → Ev (fun k => laws_eqIntS.l0 k l m (i : Int)) (decide (l.drop i = m.drop i)) := by
  induction d with
  | zero =>
    intro i hi
    refine Ev.step (f := fun _ => some (decide (l.drop i = m.drop i))) (fun k => ?_) (Ev.now _)
    simp only [laws_eqIntS.l0]
    rw [if_neg (by omega), List.drop_of_length_le (by omega), List.drop_of_length_le (by omega)]; simp
  | succ d ih =>
    intro i hi
    have hlt : i < l.length := by omega
    have hlt' : i < m.length := by omega
    have e1 := List.drop_eq_getElem_cons hlt
    have e2 := List.drop_eq_getElem_cons hlt'
    by_cases hx : l[i] = m[i]
    · refine Ev.step (f := fun k => laws_eqIntS.l0 k l m ((i + 1 : Nat) : Int)) (fun k => ?_) (evEq (ih (i + 1) (by omega)) ?_)
      · simp only [laws_eqIntS.l0]
        rw [if_pos (by omega), if_pos (by omega), if_pos (by omega), rdn l i hlt, rdn m i hlt', if_pos hx, w64s i (by omega)]
      · rw [e1, e2, hx]; simp only [List.cons.injEq, true_and]
    · refine Ev.step (f := fun _ => some false) (fun k => ?_) (evSome ?_)
      · simp only [laws_eqIntS.l0]
        rw [if_pos (by omega), if_pos (by omega), if_pos (by omega), rdn l i hlt, rdn m i hlt', if_neg hx]
      · rw [e1, e2]; symm; rw [decide_eq_false_iff_not]; intro h; exact hx (List.cons.inj h).1
theorem laws_eqIntS_ev (l m : List Int) (hl : l.length ≤ 35184372088832) : Ev (fun k => laws_eqIntS.f k l m) (decide (l = m)) := by
  unfold laws_eqIntS.f
  by_cases h : l.length = m.length
  · refine evPos (by omega) ?_
    exact laws_eqIntS_l0 l m hl h l.length 0 (by omega)
  · refine evNeg (by omega) (evSome ?_)
    symm; rw [decide_eq_false_iff_not]; intro e; exact h (by rw [e])
theorem laws_eqIntS_rfl (l : List Int) (hl : l.length ≤ 35184372088832) : Ev (fun k => laws_eqIntS.f k l l) true := evEq (laws_eqIntS_ev l l hl) (by simp)

theorem laws_eqArray_ev (a b c d : List Int) (ha : a.length ≤ 35184372088832) (hb : b.length ≤ 35184372088832) : Ev (fun k => laws_eqArray.f k a b c d) (decide (a = c ∧ b = d)) := by
  unfold laws_eqArray.f
  refine Ev.bind (laws_eqIntS_ev a c ha) ?_
  by_cases h : a = c
  · refine evPos (by simpa using h) (Ev.bind (laws_eqIntS_ev b d hb) ?_)
    by_cases h2 : b = d
    · exact evPos (by simpa using h2) (evSome (by simp [h, h2]))
    · exact evNeg (by simpa using h2) (evSome (by simp [h2]))
  · exact evNeg (by simpa using h) (evSome (by simp [h]))
theorem laws_eqArray_rfl (a b : List Int) (ha : a.length ≤ 35184372088832) (hb : b.length ≤ 35184372088832) : Ev (fun k => laws_eqArray.f k a b a b) true := evEq (laws_eqArray_ev a b a b ha hb) (by simp)

/-- The numbers that a mark leaves: from a on. -/
def asc (a : Int) : Nat → List Int
  | 0 => []
  | n + 1 => a :: asc (a + 1) n
theorem asc_length : ∀ (n : Nat) (a : Int), (asc a n).length = n
  | 0, _ => rfl
  | n + 1, a => by simp [asc, asc_length n]
theorem asc_get : ∀ (n : Nat) (a : Int) (i : Nat) (h : i < (asc a n).length), (asc a n)[i] = a + i
  | 0, _, i, h => by simp [asc] at h
  | n + 1, a, 0, _ => by simp [asc]
  | n + 1, a, i + 1, h => by
    have h2 : i < (asc (a + 1) n).length := by rw [asc_length] at h ⊢; omega
    have := asc_get n (a + 1) i h2
    simp only [asc, List.getElem_cons_succ, this]; omega
theorem asc_snoc : ∀ (n : Nat) (a : Int), asc a (n + 1) = asc a n ++ [a + n]
  | 0, a => by simp [asc]
  | n + 1, a => by
    rw [asc, asc_snoc n (a + 1)]; simp only [asc, List.cons_append]; congr 3; omega

theorem laws_markIntS_l0 (n : Nat) (a : Int) (hn : n ≤ 35184372088832) (h0 : 0 ≤ a) (h1 : a ≤ 1000000000000000) (d : Nat) : ∀ (i : Nat) (m : List Int), i + d = n → m.length = n → m.take i = asc a i → Ev (fun k => laws_markIntS.l0 k m (a + i) (i : Int)) (a + n, asc a n) := by
  induction d with
  | zero =>
    intro i m hi hm ht
    have hin : i = n := by omega
    have e : m = asc a n := by rw [List.take_of_length_le (by omega)] at ht; rw [ht, hin]
    refine Ev.step (f := fun _ => some (a + (n : Int), asc a n)) (fun k => ?_) (Ev.now _)
    simp only [laws_markIntS.l0]; rw [if_neg (by omega), e, hin]
  | succ d ih =>
    intro i m hi hm ht
    refine Ev.step (f := fun k => laws_markIntS.l0 k (m.set i (a + i)) (a + ((i + 1 : Nat) : Int)) ((i + 1 : Nat) : Int)) (fun k => ?_) (ih (i + 1) (m.set i (a + i)) (by omega) (by rw [List.length_set, hm]) ?_)
    · simp only [laws_markIntS.l0]
      have e : wrap64 (a + (i : Int) + 1) = a + ((i + 1 : Nat) : Int) := by rw [w64] <;> omega
      rw [if_pos (by omega), if_pos (by omega), w64s i (by omega), Int.toNat_natCast, e]
    · rw [List.take_succ_eq_append_getElem (l := m.set i (a + i)) (i := i) (by rw [List.length_set]; omega), List.getElem_set_self, List.take_set_of_le (Nat.le_refl i), ht, asc_snoc]
theorem laws_markIntS_ev (l : List Int) (a : Int) (hl : l.length ≤ 35184372088832) (h0 : 0 ≤ a) (h1 : a ≤ 1000000000000000) : Ev (fun k => laws_markIntS.f k l a) (a + l.length, asc a l.length) := by
  unfold laws_markIntS.f
  have := laws_markIntS_l0 l.length a hl h0 h1 l.length 0 l (by omega) rfl (by simp [asc])
  simpa using this

theorem laws_markArray_ev (a b : List Int) (n : Int) (ha : a.length ≤ 35184372088832) (hb : b.length ≤ 35184372088832) (h0 : 0 ≤ n) (h1 : n ≤ 500000000000000) : Ev (fun k => laws_markArray.f k a b n) (n + a.length + b.length, asc n a.length, asc (n + a.length) b.length) := by
  unfold laws_markArray.f
  refine Ev.bind (laws_markIntS_ev a n ha h0 (by omega)) (Ev.bind (laws_markIntS_ev b _ hb (by omega) (by omega)) (Ev.now _))

theorem laws_heldIntS_l0 (n : Nat) (a : Int) (hn : n ≤ 35184372088832) (h0 : 0 ≤ a) (h1 : a ≤ 1000000000000000) (d : Nat) : ∀ (i : Nat), i + d = n → Ev (fun k => laws_heldIntS.l0 k (asc a n) (a + i) (i : Int)) (a + n) := by
  induction d with
  | zero =>
    intro i hi
    have hin : i = n := by omega
    refine Ev.step (f := fun _ => some (a + (n : Int))) (fun k => ?_) (Ev.now _)
    simp only [laws_heldIntS.l0]; rw [if_neg (by rw [asc_length]; omega), hin]
  | succ d ih =>
    intro i hi
    refine Ev.step (f := fun k => laws_heldIntS.l0 k (asc a n) (a + ((i + 1 : Nat) : Int)) ((i + 1 : Nat) : Int)) (fun k => ?_) (ih (i + 1) (by omega))
    simp only [laws_heldIntS.l0]
    have e : wrap64 (a + (i : Int) + 1) = a + ((i + 1 : Nat) : Int) := by rw [w64] <;> omega
    have hlt : i < (asc a n).length := by rw [asc_length]; omega
    rw [if_pos (by rw [asc_length]; omega), if_pos (by omega), rdn _ i hlt, asc_get n a i hlt, if_pos rfl, w64s i (by omega), e]
theorem laws_heldIntS_ev (n : Nat) (a : Int) (hl : n ≤ 35184372088832) (h0 : 0 ≤ a) (h1 : a ≤ 1000000000000000) : Ev (fun k => laws_heldIntS.f k (asc a n) a) (a + n) := by
  unfold laws_heldIntS.f
  have := laws_heldIntS_l0 n a hl h0 h1 n 0 (by omega)
  simpa using this

theorem laws_heldArray_ev (a b : Nat) (n : Int) (ha : a ≤ 35184372088832) (hb : b ≤ 35184372088832) (h0 : 0 ≤ n) (h1 : n ≤ 500000000000000) : Ev (fun k => laws_heldArray.f k (asc n a) (asc (n + a) b) n) (n + a + b) := by
  unfold laws_heldArray.f
  refine Ev.bind (laws_heldIntS_ev a n ha h0 (by omega)) (evNeg (by omega) (Ev.bind (laws_heldIntS_ev b _ hb (by omega) (by omega)) (evNeg (by omega) (Ev.now _))))

theorem FnExactPick : ∀ (l0_0 : List Int) (l0_1 : List Int) (l1_0 : List Int) (l1_1 : List Int), l0_0.length ≤ maxLen → (∀ x ∈ l0_0, (Lit.int .i64 x).wf = true) → l0_1.length ≤ maxLen → (∀ x ∈ l0_1, (Lit.int .i64 x).wf = true) → l1_0.length ≤ maxLen → (∀ x ∈ l1_0, (Lit.int .i64 x).wf = true) → l1_1.length ≤ maxLen → (∀ x ∈ l1_1, (Lit.int .i64 x).wf = true) → ∃ k, laws_FnExactPick.f k l0_0 l0_1 l1_0 l1_1 = some true := by
  intro l0_0 l0_1 l1_0 l1_1 hm_l0_0 hw_l0_0 hm_l0_1 hw_l0_1 hm_l1_0 hw_l1_0 hm_l1_1 hw_l1_1
  have hn_l0_0 : l0_0.length ≤ 9223372036854775807 := hm_l0_0
  have hn_l0_1 : l0_1.length ≤ 9223372036854775807 := hm_l0_1
  have hn_l1_0 : l1_0.length ≤ 9223372036854775807 := hm_l1_0
  have hn_l1_1 : l1_1.length ≤ 9223372036854775807 := hm_l1_1
  suffices hE_ : Ev (fun k => laws_FnExactPick.f k l0_0 l0_1 l1_0 l1_1) true from Exists.elim hE_ (fun K_ h_ => ⟨K_, h_ K_ (Nat.le_refl _)⟩)
  unfold laws_FnExactPick.f
  obtain ⟨v0, e0, h0⟩ := laws_szArray_eq l0_0 l0_1 1048576 hn_l0_0 hn_l0_1 (by omega) (by omega)
  refine evBind0 e0 ?_
  rcases h0 with h0 | ⟨ha0, hb0, hc0, hd0⟩
  · exact evPos h0 (Ev.now _)
  refine evNeg (by omega) ?_
  obtain ⟨v1, e1, h1⟩ := laws_szArray_eq l1_0 l1_1 v0 hn_l1_0 hn_l1_1 (by omega) (by omega)
  refine evBind0 e1 ?_
  rcases h1 with h1 | ⟨ha1, hb1, hc1, hd1⟩
  · exact evPos h1 (Ev.now _)
  refine evNeg (by omega) ?_
  have hv := pickA_len l0_0 l0_1 l1_0 l1_1
  repeat' (first
    | (dsimp only)
    | (with_reducible exact Ev.now _)
    | (with_reducible refine evPos rfl ?_)
    | (refine evNeg ?hc ?_; (case hc => first | omega | (simp; done)))
    | (refine evPos ?hc ?_; (case hc => omega))
    | (refine Ev.bind (laws_toArray_ev _ _ (by omega) (by omega)) ?_)
    | (refine Ev.bind (laws_toIntS_ev _ (by omega)) ?_)
    | (refine Ev.bind (laws_eqArray_rfl _ _ (by omega) (by omega)) ?_)
    | (refine Ev.bind (laws_eqIntS_rfl _ (by omega)) ?_)
    | (refine Ev.bind (laws_markArray_ev _ _ _ (by omega) (by omega) (by omega) (by omega)) ?_)
    | (refine Ev.bind (laws_heldArray_ev _ _ _ (by omega) (by omega) (by omega) (by omega)) ?_)
    | (refine Ev.bind (laws_markIntS_ev _ _ (by omega) (by omega) (by omega)) ?_)
    | (refine Ev.bind (laws_heldIntS_ev _ _ (by omega) (by omega) (by omega)) ?_)
    | (refine Ev.bind (spec_Pick_ev _ _ _ _ (by omega) (by omega)) ?_)
    | (refine Ev.bind (impl_Pick_ev _ _ _ _ (by omega) (by omega)) ?_)
    | (refine Ev.step (fun k => by simp only [laws_FnExactPick.j0]; rfl) ?_)
    | (refine Ev.step (fun k => by simp only [laws_FnExactPick.j1]; rfl) ?_)
    | (refine Ev.step (fun k => by simp only [laws_FnExactPick.j2]; rfl) ?_)
  )


end Go.Proofs.Ytnpcjppcoejgmaa.Pure
