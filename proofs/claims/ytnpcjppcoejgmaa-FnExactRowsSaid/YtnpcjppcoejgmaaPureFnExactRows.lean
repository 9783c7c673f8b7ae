/- The law FnExactRows answers true for each array: the program's Rows is the reference's, and what it hands back is its own memory. Conditions: those of the row's own reading alone. -/
import Derived.Test.YtnpcjppcoejgmaaPFnExactRowsx
namespace Go.Proofs.Ytnpcjppcoejgmaa.Pure
open Go.RowKit Go.Proofs.Ytnpcjppcoejgmaa.PFnExactRows Go.Proofs.YtnpcjppcoejgmaaW.PrintWords Go.Proofs.YtnpcjppcoejgmaaW.PrintLast Go.Proofs.YtnpcjppcoejgmaaW.PrintMore
set_option linter.unusedVariables false
set_option linter.unusedSimpArgs false

section
variable {α β : Type}
theorem evPos {c : Prop} [Decidable c] {g h : Nat → Option α} {r : α} (hc : c) (e : Ev g r) : Ev (fun k => if c then g k else h k) r := by
  simpa only [if_pos hc] using e
theorem evNeg {c : Prop} [Decidable c] {g h : Nat → Option α} {r : α} (hc : ¬ c) (e : Ev h r) : Ev (fun k => if c then g k else h k) r := by
  simpa only [if_neg hc] using e
theorem evBind0 {o : Option α} {f : Nat → α → Option β} {a : α} {r : β} (h : o = some a) (k : Ev (fun n => f n a) r) : Ev (fun n => o.bind (f n)) r := by
  subst h; simpa only [Option.bind_some] using k
theorem evEq {g : Nat → Option α} {r r' : α} (h : Ev g r) (e : r = r') : Ev g r' := e ▸ h
theorem evSome {a r : α} (e : a = r) : Ev (fun _ => some a) r := e ▸ Ev.now a
end
theorem w64 {x : Int} (h : -9223372036854775808 ≤ x) (h' : x ≤ 9223372036854775807) : wrap64 x = x := by unfold wrap64; omega
theorem w64s (i : Nat) (h : i < 4611686018427387904) : wrap64 ((i : Int) + 1) = ((i + 1 : Nat) : Int) := by rw [w64] <;> omega
theorem rdn (l : List Int) (i : Nat) (h : i < l.length) : rd l (i : Int) = l[i] := by
  simp only [rd, Int.toNat_natCast, List.getD_eq_getElem?_getD, List.getElem?_eq_getElem h, Option.getD_some]
/-- The product of a list. -/
def prod : List Int → Int
  | [] => 1
  | x :: l => x * prod l
/-- May these stand in a shape? -/
def inR (l : List Int) : Bool := l.all fun n => decide (0 ≤ n ∧ n ≤ 300)
/-- How many numbers an array of a shape has; -1 where the shape isn't right. -/
def szOf (l : List Int) : Int := if 3 < l.length then -1 else if inR l = true then (if prod l > 300 then -1 else prod l) else -1
theorem mul300 {a b : Int} {m n : Int} (h0 : 0 ≤ a) (h1 : a ≤ m) (h2 : 0 ≤ b) (h3 : b ≤ n) : 0 ≤ a * b ∧ a * b ≤ m * n :=
  ⟨Int.mul_nonneg h0 h2, Int.mul_le_mul h1 h3 h2 (Int.le_trans h0 h1)⟩
theorem inR_cons {a : Int} {l : List Int} : inR (a :: l) = true ↔ (0 ≤ a ∧ a ≤ 300) ∧ inR l = true := by
  simp [inR]
/-- A part of a shape's product stays small. -/
def pw : Nat → Int
  | 0 => 1
  | n + 1 => 300 * pw n
theorem prod_le : ∀ (l : List Int), inR l = true → 0 ≤ prod l ∧ prod l ≤ pw l.length
  | [], _ => by simp [prod, pw]
  | a :: l, h => by
    obtain ⟨⟨h0, h1⟩, h2⟩ := inR_cons.1 h
    obtain ⟨h3, h4⟩ := prod_le l h2
    exact mul300 h0 h1 h3 h4
theorem prod_append : ∀ (a b : List Int), prod (a ++ b) = prod a * prod b
  | [], b => by simp [prod]
  | x :: a, b => by simp [prod, prod_append a b, Int.mul_assoc]
theorem pw_le {n : Nat} (h : n ≤ 3) : pw n ≤ 27000000 := by
  match n, h with
  | 0, _ => decide
  | 1, _ => decide
  | 2, _ => decide
  | 3, _ => decide
theorem inR_take {l : List Int} (i : Nat) (h : inR l = true) : inR (l.take i) = true := by
  simp only [inR, List.all_eq_true] at h ⊢
  exact fun x hx => h x (List.mem_of_mem_take hx)
theorem prod_take_succ (l : List Int) (i : Nat) (h : i < l.length) : prod (l.take (i + 1)) = prod (l.take i) * l[i] := by
  rw [List.take_succ_eq_append_getElem h, prod_append]; simp [prod]
/-- The product so far is small. -/
theorem prod_take_le (l : List Int) (i : Nat) (hl : ¬ 3 < l.length) (h : inR (l.take i) = true) : 0 ≤ prod (l.take i) ∧ prod (l.take i) ≤ 27000000 := by
  obtain ⟨h0, h1⟩ := prod_le _ h
  have h2 : (l.take i).length ≤ 3 := by rw [List.length_take]; omega
  exact ⟨h0, Int.le_trans h1 (pw_le h2)⟩
theorem inR_take_succ (l : List Int) (i : Nat) (h : i < l.length) : inR (l.take (i + 1)) = true ↔ inR (l.take i) = true ∧ (0 ≤ l[i] ∧ l[i] ≤ 300) := by
  unfold inR
  rw [List.take_succ_eq_append_getElem h, List.all_append, Bool.and_eq_true]; simp
theorem inR_not {l : List Int} (i : Nat) (h : i < l.length) (hx : ¬ (0 ≤ l[i] ∧ l[i] ≤ 300)) : inR l = false := by
  rw [← Bool.not_eq_true]
  intro hh
  simp only [inR, List.all_eq_true] at hh
  exact hx (of_decide_eq_true (hh _ (List.getElem_mem h)))
theorem szOf_ge (l : List Int) : -1 ≤ szOf l ∧ szOf l ≤ 300 := by
  unfold szOf
  by_cases h1 : 3 < l.length
  · rw [if_pos h1]; omega
  · rw [if_neg h1]
    by_cases h2 : inR l = true
    · rw [if_pos h2]
      have := (prod_le l h2).1
      by_cases h3 : prod l > 300
      · rw [if_pos h3]; omega
      · rw [if_neg h3]; omega
    · rw [if_neg h2]; omega

/-- A right number. -/
def okN (x : Int) : Bool := decide (-1000000000000 ≤ x ∧ x ≤ 1000000000000)
theorem szOf_nonneg {l : List Int} (h : szOf l ≥ 0) : ¬ 3 < l.length ∧ inR l = true ∧ prod l ≤ 300 ∧ szOf l = prod l := by
  unfold szOf at h ⊢
  by_cases h1 : 3 < l.length
  · rw [if_pos h1] at h; omega
  · rw [if_neg h1] at h ⊢
    by_cases h2 : inR l = true
    · rw [if_pos h2] at h ⊢
      by_cases h3 : prod l > 300
      · rw [if_pos h3] at h; omega
      · rw [if_neg h3] at h ⊢; exact ⟨h1, h2, by omega, rfl⟩
    · rw [if_neg h2] at h; omega
def arrayOk (s d : List Int) : Bool := decide ((d.length : Int) = szOf s) && d.all okN
theorem arrayOk_t {s d : List Int} (h : arrayOk s d = true) : (d.length : Int) = szOf s ∧ (∀ x ∈ d, okN x = true) ∧ d.length ≤ 300 ∧ s.length ≤ 3 ∧ szOf s ≥ 0 := by
  unfold arrayOk at h
  rw [Bool.and_eq_true, decide_eq_true_iff, List.all_eq_true] at h
  have h1 := szOf_ge s
  have h2 : szOf s ≥ 0 := by omega
  exact ⟨h.1, h.2, by omega, by have := (szOf_nonneg h2).1; omega, h2⟩

def row (t d : List Int) (M i : Nat) : S28 := ⟨t, (d.take ((i + 1) * M)).drop (i * M)⟩
def rowsN (N : Nat) (t d : List Int) (M : Nat) : List S28 := (List.range N).map (row t d M)
theorem rowsN_length (N : Nat) (t d : List Int) (M : Nat) : (rowsN N t d M).length = N := by unfold rowsN; simp
def rows (s d : List Int) : List S28 := match s with
  | [] => []
  | n :: t => if arrayOk (n :: t) d = true then rowsN n.toNat t d (prod t).toNat else []
theorem rows_cons (n : Int) (t d : List Int) : rows (n :: t) d = if arrayOk (n :: t) d = true then rowsN n.toNat t d (prod t).toNat else [] := rfl
theorem wmul (a b : Nat) (h : a * b ≤ 1048576) : wrap64 ((a : Int) * (b : Int)) = ((a * b : Nat) : Int) := by
  have e : ((a * b : Nat) : Int) = (a : Int) * (b : Int) := Int.natCast_mul a b
  rw [w64] <;> omega
theorem rows_facts {n : Int} {t d : List Int} (h : arrayOk (n :: t) d = true) : 0 ≤ n ∧ n.toNat * (prod t).toNat = d.length ∧ n.toNat ≤ 300 ∧ (0 < n.toNat → szOf t = ((prod t).toNat : Int)) ∧ d.length ≤ 300 ∧ t.length ≤ 2 := by
  obtain ⟨h1, h2, h3, h4, h5⟩ := arrayOk_t h
  obtain ⟨g1, g2, g3, g4⟩ := szOf_nonneg h5
  obtain ⟨⟨a1, a2⟩, a3⟩ := inR_cons.1 g2
  have p0 := (prod_le t a3).1
  have ep : prod (n :: t) = n * prod t := rfl
  have hp : ((n.toNat * (prod t).toNat : Nat) : Int) = n * prod t := by rw [Int.natCast_mul, Int.toNat_of_nonneg a1, Int.toNat_of_nonneg p0]
  simp only [List.length_cons] at h4
  refine ⟨a1, by omega, by omega, fun hn => ?_, h3, by omega⟩
  have hle : prod t ≤ n * prod t := by
    have := Int.mul_le_mul_of_nonneg_right (show 1 ≤ n by omega) p0; rwa [Int.one_mul] at this
  unfold szOf
  rw [if_neg (by omega), if_pos a3, if_neg (by omega)]; omega
theorem impl_within_eq (a b c : Int) : impl_within.f a b c = some (decide (b ≤ a ∧ a ≤ c)) := by
  unfold impl_within.f
  by_cases h : a ≥ b
  · rw [if_pos h]; congr 1; rw [Bool.eq_iff_iff, decide_eq_true_iff, decide_eq_true_iff]; omega
  · rw [if_neg h]; congr 1; symm; rw [decide_eq_false_iff_not]; omega

theorem impl_SizeOf_l0 (l : List Int) (hl : ¬ 3 < l.length) (d : Nat) : ∀ (i : Nat), i + d = l.length → inR (l.take i) = true → Ev (fun k => impl_SizeOf.l0 k (prod (l.take i)) l (l.length : Int) (i : Int)) (if inR l = true then (if prod l > 300 then -1 else prod l) else -1) := by
  induction d with
  | zero =>
    intro i hi hr
    have e : l.take i = l := List.take_of_length_le (by omega)
    rw [e] at hr ⊢
    rw [if_pos hr]
    refine Ev.step (f := fun _ => some (if prod l > 300 then -1 else prod l)) (fun k => ?_) (Ev.now _)
    simp only [impl_SizeOf.l0]; rw [if_neg (by omega)]
    by_cases h : prod l > 300
    · rw [if_pos h, if_pos h]
    · rw [if_neg h, if_neg h]
  | succ d ih =>
    intro i hi hr
    have hlt : i < l.length := by omega
    by_cases hx : 0 ≤ l[i] ∧ l[i] ≤ 300
    · have hr' := (inR_take_succ l i hlt).2 ⟨hr, hx⟩
      refine Ev.step (f := fun k => impl_SizeOf.l0 k (prod (l.take (i + 1))) l (l.length : Int) ((i + 1 : Nat) : Int)) (fun k => ?_) (ih (i + 1) (by omega) hr')
      simp only [impl_SizeOf.l0]
      rw [if_pos (by omega), if_pos (by omega), if_pos (by omega), impl_within_eq, rdn l i hlt, decide_eq_true hx]
      simp only [Option.bind_some, if_true]
      have hp := prod_take_le l (i + 1) hl hr'
      rw [w64s i (by omega), ← prod_take_succ l i hlt, w64 (by omega) (by omega)]
    · rw [if_neg (by rw [inR_not i hlt hx]; simp)]
      refine Ev.step (f := fun _ => some (-1)) (fun k => ?_) (Ev.now _)
      simp only [impl_SizeOf.l0]
      rw [if_pos (by omega), if_pos (by omega), if_pos (by omega), impl_within_eq, rdn l i hlt, decide_eq_false hx]
      rfl
theorem impl_SizeOf_ev (l : List Int) : Ev (fun k => impl_SizeOf.f k l) (szOf l) := by
  unfold impl_SizeOf.f szOf
  by_cases h : 3 < l.length
  · rw [if_pos h]; exact evPos (by omega) (Ev.now _)
  · rw [if_neg h]
    refine evNeg (by omega) ?_
    have := impl_SizeOf_l0 l h l.length 0 (by omega) (by simp [inR])
    simpa only [List.take_zero, prod, Int.ofNat_zero, Int.natCast_zero] using this

theorem impl_NumOk_eq (a : Int) : impl_NumOk.f a = some (okN a) := by
  unfold impl_NumOk.f; rw [impl_within_eq]; rfl

def p_ArrayOk1 (x : Int) : Bool := !okN x
theorem lit_ArrayOk1_eq (x : Int) : impl_ArrayOk_lit1.f x = some (p_ArrayOk1 x) := by
  unfold impl_ArrayOk_lit1.f; rw [impl_NumOk_eq]; rfl

theorem slices_IndexFunc_ArrayOk1_l0 (l : List Int) (hl : l.length ≤ 1048576) (d : Nat) : ∀ (i : Nat), i + d = l.length → (l.take i).all (fun x => !p_ArrayOk1 x) = true → ∃ r, Ev (fun k => slices_IndexFunc_ArrayOk1.l0 k l (l.length : Int) (i : Int)) r ∧ decide (r ≥ 0) = l.any p_ArrayOk1 := by
  induction d with
  | zero =>
    intro i hi ht
    refine ⟨-1, Ev.step (f := fun _ => some (-1)) (fun k => ?_) (Ev.now _), ?_⟩
    · simp only [slices_IndexFunc_ArrayOk1.l0]; rw [if_neg (by omega)]
    · have e : l.take i = l := List.take_of_length_le (by omega)
      rw [e] at ht
      symm; rw [show decide ((-1 : Int) ≥ 0) = false by decide, List.any_eq_false]
      intro x hx
      have := List.all_eq_true.1 ht x hx
      simpa using this
  | succ d ih =>
    intro i hi ht
    have hlt : i < l.length := by omega
    by_cases hx : p_ArrayOk1 l[i] = true
    · refine ⟨(i : Int), Ev.step (f := fun _ => some (i : Int)) (fun k => ?_) (Ev.now _), ?_⟩
      · simp only [slices_IndexFunc_ArrayOk1.l0]
        rw [if_pos (by omega), if_pos (by omega), if_pos (by omega), lit_ArrayOk1_eq, rdn l i hlt]; simp only [Option.bind_some]; rw [if_pos hx]
      · rw [decide_eq_true (by omega)]; symm; rw [List.any_eq_true]; exact ⟨_, List.getElem_mem hlt, hx⟩
    · obtain ⟨r, hr, h2⟩ := ih (i + 1) (by omega) (by rw [List.take_succ_eq_append_getElem hlt, List.all_append, ht]; simp [hx])
      refine ⟨r, Ev.step (f := fun k => slices_IndexFunc_ArrayOk1.l0 k l (l.length : Int) ((i + 1 : Nat) : Int)) (fun k => ?_) hr, h2⟩
      simp only [slices_IndexFunc_ArrayOk1.l0]
      rw [if_pos (by omega), if_pos (by omega), if_pos (by omega), lit_ArrayOk1_eq, rdn l i hlt]; simp only [Option.bind_some]; rw [if_neg hx, w64s i (by omega)]
theorem slices_ContainsFunc_ArrayOk1_ev (l : List Int) (hl : l.length ≤ 1048576) : Ev (fun k => slices_ContainsFunc_ArrayOk1.f k l) (l.any p_ArrayOk1) := by
  unfold slices_ContainsFunc_ArrayOk1.f slices_IndexFunc_ArrayOk1.f
  obtain ⟨r, hr, h⟩ := slices_IndexFunc_ArrayOk1_l0 l hl l.length 0 (by omega) (by simp)
  exact Ev.bind hr (evSome h)

theorem all_okN (d : List Int) : (!d.any p_ArrayOk1) = d.all okN := by
  rw [List.not_any_eq_all_not]; congr 1; funext x; simp [p_ArrayOk1]
theorem impl_ArrayOk_ev (s d : List Int) (hd : d.length ≤ 1048576) : Ev (fun k => impl_ArrayOk.f k s d) (arrayOk s d) := by
  unfold impl_ArrayOk.f arrayOk
  refine Ev.bind (impl_SizeOf_ev s) ?_
  by_cases h : (d.length : Int) = szOf s
  · exact evPos h (Ev.bind (slices_ContainsFunc_ArrayOk1_ev d hd) (evSome (by rw [all_okN, decide_eq_true h]; rfl)))
  · exact evNeg h (evSome (by rw [decide_eq_false h]; rfl))

theorem impl_copyArray_eq (s d : List Int) (hs : s.length ≤ 1048576) (hd : d.length ≤ 1048576) : impl_copyArray.f s d = some (s, d) := by
  unfold impl_copyArray.f
  rw [if_pos (by rw [List.length_nil]; omega), if_pos (by rw [List.length_nil]; omega)]; rfl

theorem impl_Rows_l0 (n : Int) (t d : List Int) (N M : Nat) (hn : n = (N : Int)) (hd : N * M = d.length) (hN : N ≤ 300) (hz : 0 < N → szOf t = (M : Int)) (h3 : d.length ≤ 300) (ht : t.length ≤ 2) (c : Nat) : ∀ (i : Nat) (o : List S28), i + c = N → o = (List.range i).map (row t d M) → Ev (fun k => impl_Rows.l0 k (szOf t) o (i : Int) (n :: t) d) (rowsN N t d M) := by
  induction c with
  | zero =>
    intro i o hi ho
    refine Ev.step (fun k => by rw [impl_Rows.l0]) ?_
    refine evPos (by simp only [List.length_cons]; omega) (evNeg ?_ (evSome ?_))
    · show ¬ (i : Int) < n; omega
    · rw [ho, show i = N by omega]; rfl
  | succ c ih =>
    intro i o hi ho
    have h1 : (i + 1) * M ≤ N * M := Nat.mul_le_mul_right _ (by omega)
    have h2 : (i + 1) * M = i * M + M := Nat.succ_mul i M
    have hol : o.length = i := by rw [ho]; simp
    refine Ev.step (fun k => by rw [impl_Rows.l0]) ?_
    refine evPos (by simp only [List.length_cons]; omega) (evPos ?_ (evPos (by simp only [List.length_cons]; omega) ?_))
    · show (i : Int) < n; omega
    rw [hz (by omega), w64s i (by omega), wmul i M (by omega), wmul (i + 1) M (by omega), Int.toNat_natCast, Int.toNat_natCast]
    refine evPos (by omega) (evPos (by omega) (evPos (by omega) (evBind0 (impl_copyArray_eq _ _ (by simp; omega) (by simp; omega)) ?_)))
    refine evPos (by omega) ?_
    rw [← hz (by omega)]
    exact ih (i + 1) _ (by omega) (by rw [ho, List.range_succ, List.map_append]; rfl)
theorem impl_Rows_ev (s d : List Int) (hd : d.length ≤ 1048576) : Ev (fun k => impl_Rows.f k s d) (rows s d) := by
  unfold impl_Rows.f
  refine Ev.bind (impl_ArrayOk_ev s d hd) ?_
  have hbad : Ev (fun k => impl_Rows.j0 k true s d) ([] : List S28) := Ev.step (fun k => by rw [impl_Rows.j0]) (evPos rfl (Ev.now _))
  cases s with
  | nil =>
    by_cases h : arrayOk [] d = true
    · exact evPos h hbad
    · exact evNeg h hbad
  | cons n t =>
    rw [rows_cons]
    by_cases h : arrayOk (n :: t) d = true
    · obtain ⟨f1, f2, f3, f4, f5, f6⟩ := rows_facts h
      rw [if_pos h]
      have e : (((n :: t).length : Int) == 0) = false := by
        rw [beq_eq_false_iff_ne]; simp only [List.length_cons]; omega
      refine evPos h ?_
      rw [e]
      refine Ev.step (fun k => by rw [impl_Rows.j0]) ?_
      refine evNeg (by simp) (evPos (by simp only [List.length_cons]; omega) (Ev.bind (impl_SizeOf_ev t) ?_))
      exact impl_Rows_l0 n t d n.toNat (prod t).toNat (Int.toNat_of_nonneg f1).symm f2 f3 f4 f5 f6 n.toNat 0 [] (by omega) rfl
    · rw [if_neg h]; exact evNeg h hbad

theorem spec_l1In_eq (a b c : Int) : spec_l1In.f a b c = some (decide (b ≤ a ∧ a ≤ c)) := by
  unfold spec_l1In.f
  by_cases h : a ≥ b
  · rw [if_pos h]; congr 1; rw [Bool.eq_iff_iff, decide_eq_true_iff, decide_eq_true_iff]; omega
  · rw [if_neg h]; congr 1; symm; rw [decide_eq_false_iff_not]; omega

theorem spec_SizeOf_l1 (l : List Int) (hl : ¬ 3 < l.length) (z : Bool) (hr : inR l = true) (hz : z = true → prod l = 0) (d : Nat) : ∀ (i : Nat), i + d = l.length → Ev (fun k => spec_SizeOf.l1 k l z (prod (l.take i)) (i : Int)) (if prod l > 300 then -1 else prod l) := by
  induction d with
  | zero =>
    intro i hi
    have e : l.take i = l := List.take_of_length_le (by omega)
    rw [e]
    refine Ev.step (f := fun _ => some (if prod l > 300 then -1 else prod l)) (fun k => ?_) (Ev.now _)
    simp only [spec_SizeOf.l1]; rw [if_neg (by omega)]
    by_cases h : prod l > 300
    · rw [if_pos h, if_pos h]
      rw [if_neg (by intro hh; have := hz hh; omega)]
    · rw [if_neg h, if_neg h]
  | succ d ih =>
    intro i hi
    have hlt : i < l.length := by omega
    have hr' := inR_take (i + 1) hr
    refine Ev.step (f := fun k => spec_SizeOf.l1 k l z (prod (l.take (i + 1))) ((i + 1 : Nat) : Int)) (fun k => ?_) (ih (i + 1) (by omega))
    simp only [spec_SizeOf.l1]
    have hp := prod_take_le l (i + 1) hl hr'
    rw [if_pos (by omega), if_pos (by omega), rdn l i hlt, w64s i (by omega), ← prod_take_succ l i hlt, w64 (by omega) (by omega)]
theorem prod_zero (l : List Int) (h : l.any (· == 0) = true) : prod l = 0 := by
  induction l with
  | nil => simp at h
  | cons a l ih =>
    rw [List.any_cons, Bool.or_eq_true] at h
    rcases h with h | h
    · have : a = 0 := by simpa using h
      rw [prod, this, Int.zero_mul]
    · rw [prod, ih h, Int.mul_zero]
theorem spec_SizeOf_l0 (l : List Int) (hl : ¬ 3 < l.length) (d : Nat) : ∀ (i : Nat) (z : Bool), i + d = l.length → inR (l.take i) = true → z = (l.take i).any (· == 0) → Ev (fun k => spec_SizeOf.l0 k l z (i : Int)) (if inR l = true then (if prod l > 300 then -1 else prod l) else -1) := by
  induction d with
  | zero =>
    intro i z hi hr hz
    have e : l.take i = l := List.take_of_length_le (by omega)
    rw [e] at hr hz
    rw [if_pos hr]
    refine Ev.step (f := fun k => spec_SizeOf.l1 k l z 1 0) (fun k => ?_) ?_
    · simp only [spec_SizeOf.l0]; rw [if_neg (by omega)]
    · exact spec_SizeOf_l1 l hl z hr (fun h => prod_zero l (by rw [← hz]; exact h)) l.length 0 (by omega)
  | succ d ih =>
    intro i z hi hr hz
    have hlt : i < l.length := by omega
    by_cases hx : 0 ≤ l[i] ∧ l[i] ≤ 300
    · have hr' := (inR_take_succ l i hlt).2 ⟨hr, hx⟩
      refine Ev.step (f := fun k => spec_SizeOf.l0 k l ((l.take (i + 1)).any (· == 0)) ((i + 1 : Nat) : Int)) (fun k => ?_) (ih (i + 1) _ (by omega) hr' rfl)
      simp only [spec_SizeOf.l0]
      rw [if_pos (by omega), if_pos (by omega), spec_l1In_eq, rdn l i hlt, decide_eq_true hx]
      simp only [Option.bind_some, if_true]
      rw [w64s i (by omega), List.take_succ_eq_append_getElem hlt, List.any_append, ← hz]
      cases z with
      | true => simp
      | false => simp
    · rw [if_neg (by rw [inR_not i hlt hx]; simp)]
      refine Ev.step (f := fun _ => some (-1)) (fun k => ?_) (Ev.now _)
      simp only [spec_SizeOf.l0]
      rw [if_pos (by omega), if_pos (by omega), spec_l1In_eq, rdn l i hlt, decide_eq_false hx]
      rfl
theorem spec_SizeOf_ev (l : List Int) : Ev (fun k => spec_SizeOf.f k l) (szOf l) := by
  unfold spec_SizeOf.f szOf
  by_cases h : 3 < l.length
  · rw [if_pos h]; exact evPos (by omega) (Ev.now _)
  · rw [if_neg h]
    refine evNeg (by omega) ?_
    exact spec_SizeOf_l0 l h l.length 0 false (by omega) (by simp [inR]) (by simp)

theorem spec_NumOk_eq (a : Int) : spec_NumOk.f a = some (okN a) := by
  unfold spec_NumOk.f; rw [spec_l1In_eq]; rfl

theorem spec_ArrayOk_l0 (s l : List Int) (hl : l.length ≤ 1048576) (d : Nat) : ∀ (i : Nat), i + d = l.length → (l.take i).all okN = true → Ev (fun k => spec_ArrayOk.l0 k (i : Int) s l) (l.all okN) := by
  induction d with
  | zero =>
    intro i hi ht
    refine Ev.step (f := fun _ => some true) (fun k => ?_) (evSome ?_)
    · simp only [spec_ArrayOk.l0]; rw [if_neg (by omega)]
    · rw [List.take_of_length_le (by omega)] at ht; exact ht.symm
  | succ d ih =>
    intro i hi ht
    have hlt : i < l.length := by omega
    by_cases hx : okN l[i] = true
    · refine Ev.step (f := fun k => spec_ArrayOk.l0 k ((i + 1 : Nat) : Int) s l) (fun k => ?_) (ih (i + 1) (by omega) (by rw [List.take_succ_eq_append_getElem hlt, List.all_append, ht]; simp [hx]))
      simp only [spec_ArrayOk.l0]
      rw [if_pos (by omega), if_pos (by omega), spec_NumOk_eq, rdn l i hlt]; simp only [Option.bind_some]; rw [if_pos hx, w64s i (by omega)]
    · refine Ev.step (f := fun _ => some false) (fun k => ?_) (evSome ?_)
      · simp only [spec_ArrayOk.l0]
        rw [if_pos (by omega), if_pos (by omega), spec_NumOk_eq, rdn l i hlt]; simp only [Option.bind_some]; rw [if_neg hx]
      · symm; rw [List.all_eq_false]; exact ⟨_, List.getElem_mem hlt, hx⟩
theorem spec_ArrayOk_ev (s d : List Int) (hd : d.length ≤ 1048576) : Ev (fun k => spec_ArrayOk.f k s d) (arrayOk s d) := by
  unfold spec_ArrayOk.f arrayOk
  refine Ev.bind (spec_SizeOf_ev s) ?_
  by_cases h : szOf s = (d.length : Int)
  · refine evPos h (evEq (spec_ArrayOk_l0 s d hd d.length 0 (by omega) (by simp)) ?_)
    rw [decide_eq_true h.symm]; rfl
  · exact evNeg h (evSome (by rw [decide_eq_false (fun e => h e.symm)]; rfl))

theorem spec_l3Rows_l0 (n : Int) (t d : List Int) (N M : Nat) (hn : n = (N : Int)) (hd : N * M = d.length) (hN : N ≤ 300) (hz : 0 < N → szOf t = (M : Int)) (h3 : d.length ≤ 300) (ht : t.length ≤ 2) (c : Nat) : ∀ (i : Nat) (o : List S28), i + c = N → o = (List.range i).map (row t d M) → Ev (fun k => spec_l3Rows.l0 k o (szOf t) (i : Int) (n :: t) d) (rowsN N t d M) := by
  induction c with
  | zero =>
    intro i o hi ho
    refine Ev.step (fun k => by rw [spec_l3Rows.l0]) ?_
    refine evPos (by simp only [List.length_cons]; omega) (evNeg ?_ (evSome ?_))
    · show ¬ (i : Int) < n; omega
    · rw [ho, show i = N by omega]; rfl
  | succ c ih =>
    intro i o hi ho
    have h1 : (i + 1) * M ≤ N * M := Nat.mul_le_mul_right _ (by omega)
    have h2 : (i + 1) * M = i * M + M := Nat.succ_mul i M
    have hol : o.length = i := by rw [ho]; simp
    have hiN : (i : Int) < n := by omega
    have hL : t.length < 17592186044416 := by omega
    have hO : o.length < 2932031007402 := by omega
    have hN0 : 0 < N := by omega
    have hM1 : i * M ≤ 1048576 := by omega
    have q1 : (0 : Int) ≤ ((i * M : Nat) : Int) := by omega
    have q2 : ((i * M : Nat) : Int) ≤ (((i + 1) * M : Nat) : Int) := by omega
    have q3 : (((i + 1) * M : Nat) : Int) ≤ (d.length : Int) := by omega
    have q4 : (i + 1) * M - i * M < 17592186044416 := by omega
    have q5 : (i + 1) * M ≤ d.length := by omega
    have q6 : wrap64 ((i : Int) + 1) = ((i + 1 : Nat) : Int) ∧ (i + 1) + c = N := ⟨w64s i (by omega), by omega⟩
    have hw : wrap64 (((i * M : Nat) : Int) + (M : Int)) = (((i + 1) * M : Nat) : Int) := by
      rw [h2] at h1 ⊢
      rw [w64 (by omega) (by omega), Int.natCast_add]
    have e1 : wrap64 ((i : Int) * szOf t) = ((i * M : Nat) : Int) := by rw [hz hN0, wmul i M hM1]
    have e2 : wrap64 (wrap64 ((i : Int) * szOf t) + szOf t) = (((i + 1) * M : Nat) : Int) := by rw [e1, hz hN0, hw]
    refine Ev.step (fun k => by rw [spec_l3Rows.l0]) ?_
    simp only [Option.bind_some, List.length_nil, List.nil_append, Nat.zero_add, List.drop_succ_cons, List.drop_zero]
    refine evPos (by simp only [List.length_cons]; exact Int.natCast_pos.2 (Nat.succ_pos _)) ?_
    refine evPos (show (i : Int) < n from hiN) ?_
    refine evPos (by simp only [List.length_cons]; exact Int.natCast_pos.2 (Nat.succ_pos _)) ?_
    refine evPos hL ?_
    refine evPos (by rw [e1]; exact q1) ?_
    refine evPos (by rw [e2, e1]; exact q2) ?_
    refine evPos (by rw [e2]; exact q3) ?_
    refine evPos (by rw [e2, e1, Int.toNat_natCast, Int.toNat_natCast, List.length_drop, List.length_take, Nat.min_eq_left q5]; exact q4) ?_
    refine evPos hO ?_
    rw [e2, e1, Int.toNat_natCast, Int.toNat_natCast, q6.1]
    exact ih (i + 1) _ q6.2 (by rw [ho, List.range_succ, List.map_append]; rfl)
theorem spec_Rows_ev (s d : List Int) (hd : d.length ≤ 1048576) : Ev (fun k => spec_Rows.f k s d) (rows s d) := by
  unfold spec_Rows.f
  refine Ev.bind (spec_ArrayOk_ev s d hd) ?_
  cases s with
  | nil =>
    by_cases h : arrayOk [] d = true
    · exact evPos h (evPos rfl (Ev.now _))
    · exact evNeg h (Ev.now _)
  | cons n t =>
    rw [rows_cons]
    by_cases h : arrayOk (n :: t) d = true
    · obtain ⟨f1, f2, f3, f4, f5, f6⟩ := rows_facts h
      rw [if_pos h]
      refine evPos h (evNeg (by simp only [List.length_cons]; omega) (Ev.bind (a := rowsN n.toNat t d (prod t).toNat) ?_ (Ev.now _)))
      unfold spec_l3Rows.f
      refine evPos (by simp only [List.length_cons]; omega) (Ev.bind (spec_SizeOf_ev t) ?_)
      exact spec_l3Rows_l0 n t d n.toNat (prod t).toNat (Int.toNat_of_nonneg f1).symm f2 f3 f4 f5 f6 n.toNat 0 [] (by omega) rfl
    · rw [if_neg h]; exact evNeg h (Ev.now _)

theorem laws_szIntS_eq (a : List Int) (n : Int) (ha : a.length ≤ 9223372036854775807) (h0 : 0 ≤ n) (h1 : n ≤ 1048576) : ∃ v, laws_szIntS.f a n = some v ∧ (v < 0 ∨ (0 ≤ v ∧ v ≤ n ∧ a.length ≤ 1048576)) := by
  unfold laws_szIntS.f
  rw [w64 (by omega) (by omega)]
  by_cases h : n - (a.length : Int) < 0
  · rw [if_pos h]; exact ⟨_, rfl, .inl (by omega)⟩
  · rw [if_neg h]; exact ⟨_, rfl, .inr (by omega)⟩
theorem laws_szArray_eq (a b : List Int) (n : Int) (ha : a.length ≤ 9223372036854775807) (hb : b.length ≤ 9223372036854775807) (h0 : 0 ≤ n) (h1 : n ≤ 1048576) : ∃ v, laws_szArray.f a b n = some v ∧ (v < 0 ∨ (0 ≤ v ∧ v ≤ 1048576 ∧ a.length ≤ 1048576 ∧ b.length ≤ 1048576)) := by
  unfold laws_szArray.f
  obtain ⟨v, hv, h⟩ := laws_szIntS_eq a n ha h0 h1
  rw [hv, Option.bind_some]
  rcases h with h | ⟨h2, h3, h4⟩
  · rw [if_pos h]; exact ⟨_, rfl, .inl (by omega)⟩
  · rw [if_neg (by omega)]
    obtain ⟨u, hu, h5⟩ := laws_szIntS_eq b v hb h2 (by omega)
    rw [hu, Option.bind_some]
    rcases h5 with h5 | ⟨h6, h7, h8⟩
    · rw [if_pos h5]; exact ⟨_, rfl, .inl (by omega)⟩
    · rw [if_neg (by omega)]; exact ⟨_, rfl, .inr (by omega)⟩

theorem laws_toIntS_l0 (l : List Int) (hl : l.length ≤ 35184372088832) (d : Nat) : ∀ (i : Nat) (m : List Int), i + d = l.length → m.length = l.length → m.take i = l.take i → Ev (fun k => laws_toIntS.l0 k l m (i : Int)) l := by
  induction d with
  | zero =>
    intro i m hi hm ht
    have e : m = l := by rw [List.take_of_length_le (by omega), List.take_of_length_le (by omega)] at ht; exact ht
    refine Ev.step (f := fun _ => some l) (fun k => ?_) (Ev.now _)
    simp only [laws_toIntS.l0]; rw [if_neg (by omega), e]
  | succ d ih =>
    intro i m hi hm ht
    have hlt : i < l.length := by omega
    refine Ev.step (f := fun k => laws_toIntS.l0 k l (m.set i l[i]) ((i + 1 : Nat) : Int)) (fun k => ?_) (ih (i + 1) (m.set i l[i]) (by omega) (by rw [List.length_set, hm]) ?_)
    · simp only [laws_toIntS.l0]
      rw [if_pos (by omega), if_pos (by omega), if_pos (by omega), rdn l i hlt, w64s i (by omega), Int.toNat_natCast]
    · rw [List.take_succ_eq_append_getElem (l := m.set i l[i]) (i := i) (by rw [List.length_set]; omega), List.take_succ_eq_append_getElem hlt, List.getElem_set_self, List.take_set_of_le (Nat.le_refl i), ht]
theorem laws_toIntS_ev (l : List Int) (hl : l.length ≤ 35184372088832) : Ev (fun k => laws_toIntS.f k l) l := by
  unfold laws_toIntS.f
  refine evPos (by omega) (evPos (by omega) ?_)
  exact laws_toIntS_l0 l hl l.length 0 _ (by omega) (by simp) (by simp)

theorem laws_toArray_ev (a b : List Int) (ha : a.length ≤ 1048576) (hb : b.length ≤ 1048576) : Ev (fun k => laws_toArray.f k a b) (a, b) := by
  unfold laws_toArray.f
  exact Ev.bind (laws_toIntS_ev a (by omega)) (Ev.bind (laws_toIntS_ev b (by omega)) (Ev.now _))

theorem laws_eqIntS_l0 (l m : List Int) (hl : l.length ≤ 35184372088832) (hm : l.length = m.length) (d : Nat) : ∀ (i : Nat), i + d = l.length → Ev (fun k => laws_eqIntS.l0 k l m (i : Int)) (decide (l.drop i = m.drop i)) := by
  induction d with
  | zero =>
    intro i hi
    refine Ev.step (f := fun _ => some (decide (l.drop i = m.drop i))) (fun k => ?_) (Ev.now _)
    simp only [laws_eqIntS.l0]
    rw [if_neg (by omega), List.drop_of_length_le (by omega), List.drop_of_length_le (by omega)]; simp
  | succ d ih =>
    intro i hi
    have hlt : i < l.length := by omega
    have hlt' : i < m.length := by omega
    have e1 := List.drop_eq_getElem_cons hlt
    have e2 := List.drop_eq_getElem_cons hlt'
    by_cases hx : l[i] = m[i]
    · refine Ev.step (f := fun k => laws_eqIntS.l0 k l m ((i + 1 : Nat) : Int)) (fun k => ?_) (evEq (ih (i + 1) (by omega)) ?_)
      · simp only [laws_eqIntS.l0]
        rw [if_pos (by omega), if_pos (by omega), if_pos (by omega), rdn l i hlt, rdn m i hlt', if_pos hx, w64s i (by omega)]
      · rw [e1, e2, hx]; simp only [List.cons.injEq, true_and]
    · refine Ev.step (f := fun _ => some false) (fun k => ?_) (evSome ?_)
      · simp only [laws_eqIntS.l0]
        rw [if_pos (by omega), if_pos (by omega), if_pos (by omega), rdn l i hlt, rdn m i hlt', if_neg hx]
      · rw [e1, e2]; symm; rw [decide_eq_false_iff_not]; intro h; exact hx (List.cons.inj h).1
theorem laws_eqIntS_ev (l m : List Int) (hl : l.length ≤ 35184372088832) : Ev (fun k => laws_eqIntS.f k l m) (decide (l = m)) := by
  unfold laws_eqIntS.f
  by_cases h : l.length = m.length
  · refine evPos (by omega) ?_
    exact laws_eqIntS_l0 l m hl h l.length 0 (by omega)
  · refine evNeg (by omega) (evSome ?_)
    symm; rw [decide_eq_false_iff_not]; intro e; exact h (by rw [e])
theorem laws_eqIntS_rfl (l : List Int) (hl : l.length ≤ 35184372088832) : Ev (fun k => laws_eqIntS.f k l l) true := evEq (laws_eqIntS_ev l l hl) (by simp)

theorem laws_eqArray_ev (a b c d : List Int) (ha : a.length ≤ 35184372088832) (hb : b.length ≤ 35184372088832) : Ev (fun k => laws_eqArray.f k a b c d) (decide (a = c ∧ b = d)) := by
  unfold laws_eqArray.f
  refine Ev.bind (laws_eqIntS_ev a c ha) ?_
  by_cases h : a = c
  · refine evPos (by simpa using h) (Ev.bind (laws_eqIntS_ev b d hb) ?_)
    by_cases h2 : b = d
    · exact evPos (by simpa using h2) (evSome (by simp [h, h2]))
    · exact evNeg (by simpa using h2) (evSome (by simp [h2]))
  · exact evNeg (by simpa using h) (evSome (by simp [h]))
theorem laws_eqArray_rfl (a b : List Int) (ha : a.length ≤ 35184372088832) (hb : b.length ≤ 35184372088832) : Ev (fun k => laws_eqArray.f k a b a b) true := evEq (laws_eqArray_ev a b a b ha hb) (by simp)

/-- The numbers that a mark leaves: from a on. -/
def asc (a : Int) : Nat → List Int
  | 0 => []
  | n + 1 => a :: asc (a + 1) n
theorem asc_length : ∀ (n : Nat) (a : Int), (asc a n).length = n
  | 0, _ => rfl
  | n + 1, a => by simp [asc, asc_length n]
theorem asc_get : ∀ (n : Nat) (a : Int) (i : Nat) (h : i < (asc a n).length), (asc a n)[i] = a + i
  | 0, _, i, h => by simp [asc] at h
  | n + 1, a, 0, _ => by simp [asc]
  | n + 1, a, i + 1, h => by
    have h2 : i < (asc (a + 1) n).length := by rw [asc_length] at h ⊢; omega
    have := asc_get n (a + 1) i h2
    simp only [asc, List.getElem_cons_succ, this]; omega
theorem asc_snoc : ∀ (n : Nat) (a : Int), asc a (n + 1) = asc a n ++ [a + n]
  | 0, a => by simp [asc]
  | n + 1, a => by
    rw [asc, asc_snoc n (a + 1)]; simp only [asc, List.cons_append]; congr 3; omega

theorem laws_markIntS_l0 (n : Nat) (a : Int) (hn : n ≤ 35184372088832) (h0 : 0 ≤ a) (h1 : a ≤ 1000000000000000) (d : Nat) : ∀ (i : Nat) (m : List Int), i + d = n → m.length = n → m.take i = asc a i → Ev (fun k => laws_markIntS.l0 k m (a + i) (i : Int)) (a + n, asc a n) := by
  induction d with
  | zero =>
    intro i m hi hm ht
    have hin : i = n := by omega
    have e : m = asc a n := by rw [List.take_of_length_le (by omega)] at ht; rw [ht, hin]
    refine Ev.step (f := fun _ => some (a + (n : Int), asc a n)) (fun k => ?_) (Ev.now _)
    simp only [laws_markIntS.l0]; rw [if_neg (by omega), e, hin]
  | succ d ih =>
    intro i m hi hm ht
    refine Ev.step (f := fun k => laws_markIntS.l0 k (m.set i (a + i)) (a + ((i + 1 : Nat) : Int)) ((i + 1 : Nat) : Int)) (fun k => ?_) (ih (i + 1) (m.set i (a + i)) (by omega) (by rw [List.length_set, hm]) ?_)
    · simp only [laws_markIntS.l0]
      have e : wrap64 (a + (i : Int) + 1) = a + ((i + 1 : Nat) : Int) := by rw [w64] <;> omega
      rw [if_pos (by omega), if_pos (by omega), w64s i (by omega), Int.toNat_natCast, e]
    · rw [List.take_succ_eq_append_getElem (l := m.set i (a + i)) (i := i) (by rw [List.length_set]; omega), List.getElem_set_self, List.take_set_of_le (Nat.le_refl i), ht, asc_snoc]
theorem laws_markIntS_ev (l : List Int) (a : Int) (hl : l.length ≤ 35184372088832) (h0 : 0 ≤ a) (h1 : a ≤ 1000000000000000) : Ev (fun k => laws_markIntS.f k l a) (a + l.length, asc a l.length) := by
  unfold laws_markIntS.f
  have := laws_markIntS_l0 l.length a hl h0 h1 l.length 0 l (by omega) rfl (by simp [asc])
  simpa using this

theorem laws_markArray_ev (a b : List Int) (n : Int) (ha : a.length ≤ 35184372088832) (hb : b.length ≤ 35184372088832) (h0 : 0 ≤ n) (h1 : n ≤ 500000000000000) : Ev (fun k => laws_markArray.f k a b n) (n + a.length + b.length, asc n a.length, asc (n + a.length) b.length) := by
  unfold laws_markArray.f
  refine Ev.bind (laws_markIntS_ev a n ha h0 (by omega)) (Ev.bind (laws_markIntS_ev b _ hb (by omega) (by omega)) (Ev.now _))

theorem laws_heldIntS_l0 (n : Nat) (a : Int) (hn : n ≤ 35184372088832) (h0 : 0 ≤ a) (h1 : a ≤ 1000000000000000) (d : Nat) : ∀ (i : Nat), i + d = n → Ev (fun k => laws_heldIntS.l0 k (asc a n) (a + i) (i : Int)) (a + n) := by
  induction d with
  | zero =>
    intro i hi
    have hin : i = n := by omega
    refine Ev.step (f := fun _ => some (a + (n : Int))) (fun k => ?_) (Ev.now _)
    simp only [laws_heldIntS.l0]; rw [if_neg (by rw [asc_length]; omega), hin]
  | succ d ih =>
    intro i hi
    refine Ev.step (f := fun k => laws_heldIntS.l0 k (asc a n) (a + ((i + 1 : Nat) : Int)) ((i + 1 : Nat) : Int)) (fun k => ?_) (ih (i + 1) (by omega))
    simp only [laws_heldIntS.l0]
    have e : wrap64 (a + (i : Int) + 1) = a + ((i + 1 : Nat) : Int) := by rw [w64] <;> omega
    have hlt : i < (asc a n).length := by rw [asc_length]; omega
    rw [if_pos (by rw [asc_length]; omega), if_pos (by omega), rdn _ i hlt, asc_get n a i hlt, if_pos rfl, w64s i (by omega), e]
theorem laws_heldIntS_ev (n : Nat) (a : Int) (hl : n ≤ 35184372088832) (h0 : 0 ≤ a) (h1 : a ≤ 1000000000000000) : Ev (fun k => laws_heldIntS.f k (asc a n) a) (a + n) := by
  unfold laws_heldIntS.f
  have := laws_heldIntS_l0 n a hl h0 h1 n 0 (by omega)
  simpa using this

/-- The rows as a mark leaves them, from the number a on; the number behind them. -/
def ascS : Int → List S28 → List S28
  | _, [] => []
  | a, x :: t => ⟨asc a x.f0.length, asc (a + x.f0.length) x.f1.length⟩ :: ascS (a + x.f0.length + x.f1.length) t
def endS : Int → List S28 → Int
  | a, [] => a
  | a, x :: t => endS (a + x.f0.length + x.f1.length) t
def smallS (l : List S28) : Prop := ∀ x ∈ l, x.f0.length ≤ 300 ∧ x.f1.length ≤ 300
theorem endS_ge : ∀ (l : List S28) (a : Int), a ≤ endS a l
  | [], a => Int.le_refl a
  | x :: t, a => by
    have := endS_ge t (a + x.f0.length + x.f1.length)
    unfold endS; omega
theorem rd_mid (p : List S28) (x : S28) (t : List S28) : rd_T28 (p ++ x :: t) (p.length : Int) = x := by
  unfold rd_T28
  rw [Int.toNat_natCast, List.getD_eq_getElem?_getD, List.getElem?_append_right (Nat.le_refl _), Nat.sub_self]; rfl
theorem set_mid (p : List S28) (x y : S28) (t : List S28) : (p ++ x :: t).set ((p.length : Int)).toNat y = (p ++ [y]) ++ t := by
  rw [Int.toNat_natCast, List.set_append_right _ _ (Nat.le_refl _), Nat.sub_self, List.set_cons_zero, List.append_assoc]; rfl
theorem mid_lt (p : List S28) (x : S28) (t : List S28) : (p.length : Int) < ((p ++ x :: t).length : Int) := by
  rw [List.length_append, List.length_cons]; omega
theorem laws_eqArrayS_l0 (l : List S28) : ∀ (p : List S28), smallS l → p.length + l.length ≤ 1000000 → Ev (fun k => laws_eqArrayS.l0 k (p ++ l) (p ++ l) (p.length : Int)) true := by
  induction l with
  | nil =>
    intro p _ _
    refine Ev.step (fun k => by rw [laws_eqArrayS.l0]) (evNeg ?_ (Ev.now _))
    simp
  | cons x t ih =>
    intro p hs hp
    have hx := hs x (List.mem_cons_self ..)
    rw [List.length_cons] at hp
    refine Ev.step (fun k => by rw [laws_eqArrayS.l0]) ?_
    refine evPos (mid_lt p x t) (evPos (by omega) (evPos (mid_lt p x t) ?_))
    rw [rd_mid]
    refine Ev.bind (laws_eqArray_rfl _ _ (by omega) (by omega)) (evPos rfl ?_)
    rw [w64s _ (by omega)]
    have := ih (p ++ [x]) (fun y hy => hs y (List.mem_cons_of_mem _ hy)) (by rw [List.length_append, List.length_singleton]; omega)
    rw [List.append_assoc, List.length_append, List.length_singleton] at this
    exact this
theorem laws_eqArrayS_rfl (l : List S28) (hs : smallS l) (hl : l.length ≤ 1000000) : Ev (fun k => laws_eqArrayS.f k l l) true := by
  unfold laws_eqArrayS.f
  exact evPos rfl (laws_eqArrayS_l0 l [] hs (by simpa using hl))
theorem laws_markArrayS_l0 (l : List S28) : ∀ (p : List S28) (a : Int), smallS l → p.length + l.length ≤ 1000000 → 0 ≤ a → a + 600 * (l.length : Int) ≤ 1000000000 → Ev (fun k => laws_markArrayS.l0 k (p ++ l) a (p.length : Int)) (endS a l, p ++ ascS a l) := by
  induction l with
  | nil =>
    intro p a _ _ _ _
    refine Ev.step (fun k => by rw [laws_markArrayS.l0]) (evNeg ?_ (evSome ?_))
    · simp
    · rfl
  | cons x t ih =>
    intro p a hs hp h0 h1
    have hx := hs x (List.mem_cons_self ..)
    rw [List.length_cons] at hp h1
    refine Ev.step (fun k => by rw [laws_markArrayS.l0]) ?_
    refine evPos (mid_lt p x t) (evPos (by omega) ?_)
    rw [rd_mid]
    refine Ev.bind (laws_markIntS_ev _ _ (by omega) h0 (by omega)) (Ev.bind (laws_markIntS_ev _ _ (by omega) (by omega) (by omega)) ?_)
    rw [w64s _ (by omega), set_mid]
    have := ih (p ++ [⟨asc a x.f0.length, asc (a + x.f0.length) x.f1.length⟩]) (a + x.f0.length + x.f1.length) (fun y hy => hs y (List.mem_cons_of_mem _ hy)) (by rw [List.length_append, List.length_singleton]; omega) (by omega) (by omega)
    rw [List.length_append, List.length_singleton] at this
    unfold endS ascS
    dsimp only
    simp only [List.append_assoc, List.singleton_append] at this ⊢
    exact this
theorem laws_markArrayS_ev (l : List S28) (a : Int) (hs : smallS l) (hl : l.length ≤ 1000000) (h0 : 0 ≤ a) (h1 : a + 600 * (l.length : Int) ≤ 1000000000) : Ev (fun k => laws_markArrayS.f k l a) (endS a l, ascS a l) := by
  unfold laws_markArrayS.f
  exact laws_markArrayS_l0 l [] a hs (by simpa using hl) h0 h1
theorem laws_heldArrayS_l0 (l : List S28) : ∀ (p : List S28) (a : Int), smallS l → p.length + l.length ≤ 1000000 → 0 ≤ a → a + 600 * (l.length : Int) ≤ 1000000000 → Ev (fun k => laws_heldArrayS.l0 k (p ++ ascS a l) a (p.length : Int)) (endS a l) := by
  induction l with
  | nil =>
    intro p a _ _ _ _
    refine Ev.step (fun k => by rw [laws_heldArrayS.l0]) (evNeg ?_ (evSome ?_))
    · simp [ascS]
    · rfl
  | cons x t ih =>
    intro p a hs hp h0 h1
    have hx := hs x (List.mem_cons_self ..)
    rw [List.length_cons] at hp h1
    unfold ascS endS
    refine Ev.step (fun k => by rw [laws_heldArrayS.l0]) ?_
    refine evPos (mid_lt p _ _) (evPos (by omega) ?_)
    rw [rd_mid]
    refine Ev.bind (laws_heldIntS_ev _ _ (by omega) h0 (by omega)) (evNeg (by omega) (Ev.bind (laws_heldIntS_ev _ _ (by omega) (by omega) (by omega)) (evNeg (by omega) ?_)))
    rw [w64s _ (by omega)]
    have := ih (p ++ [⟨asc a x.f0.length, asc (a + x.f0.length) x.f1.length⟩]) (a + x.f0.length + x.f1.length) (fun y hy => hs y (List.mem_cons_of_mem _ hy)) (by rw [List.length_append, List.length_singleton]; omega) (by omega) (by omega)
    rw [List.append_assoc, List.length_append, List.length_singleton] at this
    exact this
theorem laws_heldArrayS_ev (l : List S28) (a : Int) (hs : smallS l) (hl : l.length ≤ 1000000) (h0 : 0 ≤ a) (h1 : a + 600 * (l.length : Int) ≤ 1000000000) : Ev (fun k => laws_heldArrayS.f k (ascS a l) a) (endS a l) := by
  unfold laws_heldArrayS.f
  exact laws_heldArrayS_l0 l [] a hs (by simpa using hl) h0 h1
theorem rows_small (s d : List Int) : smallS (rows s d) ∧ (rows s d).length ≤ 300 := by
  cases s with
  | nil => exact ⟨(fun x hx => absurd hx List.not_mem_nil), Nat.zero_le _⟩
  | cons n t =>
    rw [rows_cons]
    by_cases h : arrayOk (n :: t) d = true
    · rw [if_pos h]
      obtain ⟨f1, f2, f3, f4, f5, f6⟩ := rows_facts h
      refine ⟨fun x hx => ?_, by rw [rowsN_length]; exact f3⟩
      unfold rowsN at hx
      obtain ⟨i, _, rfl⟩ := List.mem_map.1 hx
      refine ⟨by show t.length ≤ 300; omega, ?_⟩
      show ((d.take _).drop _).length ≤ 300
      rw [List.length_drop, List.length_take]; omega
    · rw [if_neg h]; exact ⟨(fun x hx => absurd hx List.not_mem_nil), Nat.zero_le _⟩

theorem FnExactRows : ∀ (l0_0 : List Int) (l0_1 : List Int), l0_0.length ≤ maxLen → (∀ x ∈ l0_0, (Lit.int .i64 x).wf = true) → l0_1.length ≤ maxLen → (∀ x ∈ l0_1, (Lit.int .i64 x).wf = true) → ∃ k, laws_FnExactRows.f k l0_0 l0_1 = some true := by
  intro l0_0 l0_1 hm_l0_0 hw_l0_0 hm_l0_1 hw_l0_1
  have hn_l0_0 : l0_0.length ≤ 9223372036854775807 := hm_l0_0
  have hn_l0_1 : l0_1.length ≤ 9223372036854775807 := hm_l0_1
  suffices hE_ : Ev (fun k => laws_FnExactRows.f k l0_0 l0_1) true from Exists.elim hE_ (fun K_ h_ => ⟨K_, h_ K_ (Nat.le_refl _)⟩)
  unfold laws_FnExactRows.f
  obtain ⟨v0, e0, h0⟩ := laws_szArray_eq l0_0 l0_1 1048576 hn_l0_0 hn_l0_1 (by omega) (by omega)
  refine evBind0 e0 ?_
  rcases h0 with h0 | ⟨ha0, hb0, hc0, hd0⟩
  · exact evPos h0 (Ev.now _)
  refine evNeg (by omega) ?_
  have hs := (rows_small l0_0 l0_1).1
  have hv := (rows_small l0_0 l0_1).2
  have he := endS_ge (rows l0_0 l0_1) 1
  repeat' (first
    | (dsimp only)
    | (with_reducible exact Ev.now _)
    | (with_reducible refine evPos rfl ?_)
    | (refine evNeg ?hc ?_; (case hc => first | omega | (simp; done)))
    | (refine evPos ?hc ?_; (case hc => omega))
    | (refine Ev.bind (laws_toArray_ev _ _ (by omega) (by omega)) ?_)
    | (refine Ev.bind (laws_toIntS_ev _ (by omega)) ?_)
    | (refine Ev.bind (laws_eqArray_rfl _ _ (by omega) (by omega)) ?_)
    | (refine Ev.bind (laws_eqIntS_rfl _ (by omega)) ?_)
    | (refine Ev.bind (laws_markArray_ev _ _ _ (by omega) (by omega) (by omega) (by omega)) ?_)
    | (refine Ev.bind (laws_markIntS_ev _ _ (by omega) (by omega) (by omega)) ?_)
    | (refine Ev.bind (laws_heldIntS_ev _ _ (by omega) (by omega) (by omega)) ?_)
    | (refine Ev.bind (spec_Rows_ev _ _ (by omega)) ?_)
    | (refine Ev.bind (impl_Rows_ev _ _ (by omega)) ?_)
    | (refine Ev.bind (laws_eqArrayS_rfl _ hs (by omega)) ?_)
    | (refine Ev.bind (laws_markArrayS_ev _ _ hs (by omega) (by omega) (by omega)) ?_)
    | (refine Ev.bind (laws_heldArrayS_ev _ _ hs (by omega) (by omega) (by omega)) ?_)
    | (refine Ev.step (fun k => by simp only [laws_FnExactRows.j0]; rfl) ?_)
    | (refine Ev.step (fun k => by simp only [laws_FnExactRows.j1]; rfl) ?_)
    | (refine Ev.step (fun k => by simp only [laws_FnExactRows.j2]; rfl) ?_)
  )


end Go.Proofs.Ytnpcjppcoejgmaa.Pure
