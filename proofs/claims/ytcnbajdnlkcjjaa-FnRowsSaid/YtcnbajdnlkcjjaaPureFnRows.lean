/- The law FnRows answers true for each code: the rows of a drawn array have all of its numbers, in order, and each number is at its index. Conditions: those of the row's own reading alone. -/
import Derived.Test.YtcnbajdnlkcjjaaPFnRowsx8
namespace Go.Proofs.Ytcnbajdnlkcjjaa.Pure
open Go.RowKit Go.Proofs.Ytcnbajdnlkcjjaa.PFnRows Go.Proofs.YtcnbajdnlkcjjaaW.PrintWords Go.Proofs.YtcnbajdnlkcjjaaW.PrintLast Go.Proofs.YtcnbajdnlkcjjaaW.PrintMore
set_option linter.unusedVariables false
set_option linter.unusedSimpArgs false

section
variable {α β : Type}
theorem evPos {c : Prop} [Decidable c] {g h : Nat → Option α} {r : α} (hc : c) (e : Ev g r) : Ev (fun k => if c then g k else h k) r := by
  simpa only [if_pos hc] using e
theorem evNeg {c : Prop} [Decidable c] {g h : Nat → Option α} {r : α} (hc : ¬ c) (e : Ev h r) : Ev (fun k => if c then g k else h k) r := by
  simpa only [if_neg hc] using e
theorem evBind0 {o : Option α} {f : Nat → α → Option β} {a : α} {r : β} (h : o = some a) (k : Ev (fun n => f n a) r) : Ev (fun n => o.bind (f n)) r := by
  subst h; simpa only [Option.bind_some] using k
theorem evLet {a : α} {f : Nat → α → Option β} {r : β} (k : Ev (fun n => f n a) r) : Ev (fun n => (some a).bind (f n)) r := by
  simpa only [Option.bind_some] using k
theorem evEq {g : Nat → Option α} {r r' : α} (h : Ev g r) (e : r = r') : Ev g r' := e ▸ h
theorem evSomeEq {o : Option α} {r : α} (e : o = some r) : Ev (fun _ => o) r := e ▸ Ev.now r
theorem evSome {a r : α} (e : a = r) : Ev (fun _ => some a) r := e ▸ Ev.now a
end
theorem w64 {x : Int} (h : -9223372036854775808 ≤ x) (h' : x ≤ 9223372036854775807) : wrap64 x = x := by unfold wrap64; omega
theorem w64s (i : Nat) (h : i < 4611686018427387904) : wrap64 ((i : Int) + 1) = ((i + 1 : Nat) : Int) := by rw [w64] <;> omega
theorem rdn (l : List Int) (i : Nat) (h : i < l.length) : rd l (i : Int) = l[i] := by
  simp only [rd, Int.toNat_natCast, List.getD_eq_getElem?_getD, List.getElem?_eq_getElem h, Option.getD_some]
theorem wfI {x : Int} (h : (Lit.int .i64 x).wf = true) : -9223372036854775808 ≤ x ∧ x ≤ 9223372036854775807 := by
  have h2 : (decide (IntKind.i64.min ≤ x) && decide (x ≤ IntKind.i64.max)) = true := h
  rw [Bool.and_eq_true, decide_eq_true_iff, decide_eq_true_iff] at h2
  have e1 : IntKind.i64.min = -9223372036854775808 := by decide
  have e2 : IntKind.i64.max = 9223372036854775807 := by decide
  rw [e1, e2] at h2
  exact h2

/-- The product of a list. -/
def prod : List Int → Int
  | [] => 1
  | x :: l => x * prod l
/-- May these stand in a shape? -/
def inR (l : List Int) : Bool := l.all fun n => decide (0 ≤ n ∧ n ≤ 300)
/-- How many numbers an array of a shape has; -1 where the shape isn't right. -/
def szOf (l : List Int) : Int := if 3 < l.length then -1 else if inR l = true then (if prod l > 300 then -1 else prod l) else -1
theorem mul300 {a b : Int} {m n : Int} (h0 : 0 ≤ a) (h1 : a ≤ m) (h2 : 0 ≤ b) (h3 : b ≤ n) : 0 ≤ a * b ∧ a * b ≤ m * n :=
  ⟨Int.mul_nonneg h0 h2, Int.mul_le_mul h1 h3 h2 (Int.le_trans h0 h1)⟩
theorem shape_cases {l : List Int} (h : ¬ 3 < l.length) : l = [] ∨ (∃ a, l = [a]) ∨ (∃ a b, l = [a, b]) ∨ ∃ a b c, l = [a, b, c] := by
  match l, h with
  | [], _ => exact .inl rfl
  | [a], _ => exact .inr (.inl ⟨a, rfl⟩)
  | [a, b], _ => exact .inr (.inr (.inl ⟨a, b, rfl⟩))
  | [a, b, c], _ => exact .inr (.inr (.inr ⟨a, b, c, rfl⟩))
  | _ :: _ :: _ :: _ :: _, h => exact absurd (by simp) h
theorem inR_cons {a : Int} {l : List Int} : inR (a :: l) = true ↔ (0 ≤ a ∧ a ≤ 300) ∧ inR l = true := by
  simp [inR]
/-- A part of a shape's product stays small. -/
def pw : Nat → Int
  | 0 => 1
  | n + 1 => 300 * pw n
theorem prod_le : ∀ (l : List Int), inR l = true → 0 ≤ prod l ∧ prod l ≤ pw l.length
  | [], _ => by simp [prod, pw]
  | a :: l, h => by
    obtain ⟨⟨h0, h1⟩, h2⟩ := inR_cons.1 h
    obtain ⟨h3, h4⟩ := prod_le l h2
    exact mul300 h0 h1 h3 h4
theorem prod_append : ∀ (a b : List Int), prod (a ++ b) = prod a * prod b
  | [], b => by simp [prod]
  | x :: a, b => by simp [prod, prod_append a b, Int.mul_assoc]
theorem pw_le {n : Nat} (h : n ≤ 3) : pw n ≤ 27000000 := by
  match n, h with
  | 0, _ => decide
  | 1, _ => decide
  | 2, _ => decide
  | 3, _ => decide
theorem inR_take {l : List Int} (i : Nat) (h : inR l = true) : inR (l.take i) = true := by
  simp only [inR, List.all_eq_true] at h ⊢
  exact fun x hx => h x (List.mem_of_mem_take hx)
theorem prod_take_succ (l : List Int) (i : Nat) (h : i < l.length) : prod (l.take (i + 1)) = prod (l.take i) * l[i] := by
  rw [List.take_succ_eq_append_getElem h, prod_append]; simp [prod]
/-- The product so far is small. -/
theorem prod_take_le (l : List Int) (i : Nat) (hl : ¬ 3 < l.length) (h : inR (l.take i) = true) : 0 ≤ prod (l.take i) ∧ prod (l.take i) ≤ 27000000 := by
  obtain ⟨h0, h1⟩ := prod_le _ h
  have h2 : (l.take i).length ≤ 3 := by rw [List.length_take]; omega
  exact ⟨h0, Int.le_trans h1 (pw_le h2)⟩
theorem inR_take_succ (l : List Int) (i : Nat) (h : i < l.length) : inR (l.take (i + 1)) = true ↔ inR (l.take i) = true ∧ (0 ≤ l[i] ∧ l[i] ≤ 300) := by
  unfold inR
  rw [List.take_succ_eq_append_getElem h, List.all_append, Bool.and_eq_true]; simp
theorem inR_not {l : List Int} (i : Nat) (h : i < l.length) (hx : ¬ (0 ≤ l[i] ∧ l[i] ≤ 300)) : inR l = false := by
  rw [← Bool.not_eq_true]
  intro hh
  simp only [inR, List.all_eq_true] at hh
  exact hx (of_decide_eq_true (hh _ (List.getElem_mem h)))
theorem szOf_ge (l : List Int) : -1 ≤ szOf l ∧ szOf l ≤ 300 := by
  unfold szOf
  by_cases h1 : 3 < l.length
  · rw [if_pos h1]; omega
  · rw [if_neg h1]
    by_cases h2 : inR l = true
    · rw [if_pos h2]
      have := (prod_le l h2).1
      by_cases h3 : prod l > 300
      · rw [if_pos h3]; omega
      · rw [if_neg h3]; omega
    · rw [if_neg h2]; omega

/-- A right number. -/
def okN (x : Int) : Bool := decide (-1000000000000 ≤ x ∧ x ≤ 1000000000000)
theorem okN_t {x : Int} (h : okN x = true) : -1000000000000 ≤ x ∧ x ≤ 1000000000000 := of_decide_eq_true h
theorem okN_f {x : Int} (h : okN x = false) : ¬ (-1000000000000 ≤ x ∧ x ≤ 1000000000000) := of_decide_eq_false h

/-- The place of an index, from a number on; -1 where the index isn't right. -/
def placeGo : Int → List Int → List Int → Int
  | a, n :: s, i :: x => if 0 ≤ i ∧ i ≤ n - 1 then placeGo (a * n + i) s x else -1
  | a, _, _ => a
def placeOf (s x : List Int) : Int := if szOf s ≥ 0 ∧ x.length = s.length then placeGo 0 s x else -1
theorem szOf_nonneg {l : List Int} (h : szOf l ≥ 0) : ¬ 3 < l.length ∧ inR l = true ∧ prod l ≤ 300 ∧ szOf l = prod l := by
  unfold szOf at h ⊢
  by_cases h1 : 3 < l.length
  · rw [if_pos h1] at h; omega
  · rw [if_neg h1] at h ⊢
    by_cases h2 : inR l = true
    · rw [if_pos h2] at h ⊢
      by_cases h3 : prod l > 300
      · rw [if_pos h3] at h; omega
      · rw [if_neg h3] at h ⊢; exact ⟨h1, h2, by omega, rfl⟩
    · rw [if_neg h2] at h; omega
def pb : Nat → Int
  | 0 => 0
  | n + 1 => 300 * pb n + 300
theorem pb_le {n : Nat} (h : n ≤ 3) : pb n ≤ 28000000 := by
  match n, h with
  | 0, _ => decide
  | 1, _ => decide
  | 2, _ => decide
  | 3, _ => decide

def arrayOk (s d : List Int) : Bool := decide ((d.length : Int) = szOf s) && d.all okN
theorem arrayOk_t {s d : List Int} (h : arrayOk s d = true) : (d.length : Int) = szOf s ∧ (∀ x ∈ d, okN x = true) ∧ d.length ≤ 300 ∧ s.length ≤ 3 ∧ szOf s ≥ 0 := by
  unfold arrayOk at h
  rw [Bool.and_eq_true, decide_eq_true_iff, List.all_eq_true] at h
  have h1 := szOf_ge s
  have h2 : szOf s ≥ 0 := by omega
  exact ⟨h.1, h.2, by omega, by have := (szOf_nonneg h2).1; omega, h2⟩

def row (t d : List Int) (M i : Nat) : S26 := ⟨t, (d.take ((i + 1) * M)).drop (i * M)⟩
def rowsN (N : Nat) (t d : List Int) (M : Nat) : List S26 := (List.range N).map (row t d M)
theorem rowsN_length (N : Nat) (t d : List Int) (M : Nat) : (rowsN N t d M).length = N := by unfold rowsN; simp
theorem rowsN_rd (N : Nat) (t d : List Int) (M i : Nat) (h : i < N) : rd_T26 (rowsN N t d M) (i : Int) = row t d M i := by
  unfold rd_T26 rowsN
  rw [Int.toNat_natCast, List.getD_eq_getElem?_getD, List.getElem?_eq_getElem (by simp; exact h)]; simp
def rows (s d : List Int) : List S26 := match s with
  | [] => []
  | n :: t => if arrayOk (n :: t) d = true then rowsN n.toNat t d (prod t).toNat else []
theorem rows_cons (n : Int) (t d : List Int) : rows (n :: t) d = if arrayOk (n :: t) d = true then rowsN n.toNat t d (prod t).toNat else [] := rfl
theorem wmul (a b : Nat) (h : a * b ≤ 1048576) : wrap64 ((a : Int) * (b : Int)) = ((a * b : Nat) : Int) := by
  have e : ((a * b : Nat) : Int) = (a : Int) * (b : Int) := Int.natCast_mul a b
  rw [w64] <;> omega
theorem rows_facts {n : Int} {t d : List Int} (h : arrayOk (n :: t) d = true) : 0 ≤ n ∧ n.toNat * (prod t).toNat = d.length ∧ n.toNat ≤ 300 ∧ (0 < n.toNat → szOf t = ((prod t).toNat : Int)) ∧ d.length ≤ 300 ∧ t.length ≤ 2 := by
  obtain ⟨h1, h2, h3, h4, h5⟩ := arrayOk_t h
  obtain ⟨g1, g2, g3, g4⟩ := szOf_nonneg h5
  obtain ⟨⟨a1, a2⟩, a3⟩ := inR_cons.1 g2
  have p0 := (prod_le t a3).1
  have ep : prod (n :: t) = n * prod t := rfl
  have hp : ((n.toNat * (prod t).toNat : Nat) : Int) = n * prod t := by rw [Int.natCast_mul, Int.toNat_of_nonneg a1, Int.toNat_of_nonneg p0]
  simp only [List.length_cons] at h4
  refine ⟨a1, by omega, by omega, fun hn => ?_, h3, by omega⟩
  have hle : prod t ≤ n * prod t := by
    have := Int.mul_le_mul_of_nonneg_right (show 1 ≤ n by omega) p0; rwa [Int.one_mul] at this
  unfold szOf
  rw [if_neg (by omega), if_pos a3, if_neg (by omega)]; omega
theorem row_len {N M i : Nat} {t d : List Int} (hd : N * M = d.length) (h : i < N) : (row t d M i).f1.length = M := by
  have h1 : (i + 1) * M ≤ N * M := Nat.mul_le_mul_right _ h
  have h2 : (i + 1) * M = i * M + M := Nat.succ_mul i M
  show ((d.take ((i + 1) * M)).drop (i * M)).length = M
  rw [List.length_drop, List.length_take, Nat.min_eq_left (by omega)]; omega
theorem row_get {N M i j : Nat} {t d : List Int} (hd : N * M = d.length) (h : i < N) (hj : j < M) : rd (row t d M i).f1 (j : Int) = rd d ((i * M + j : Nat) : Int) := by
  have h1 : (i + 1) * M ≤ N * M := Nat.mul_le_mul_right _ h
  have h2 : (i + 1) * M = i * M + M := Nat.succ_mul i M
  rw [rdn _ j (by rw [row_len hd h]; exact hj), rdn d _ (by omega)]
  unfold row; simp

theorem impl_within_eq (a b c : Int) : impl_within.f a b c = some (decide (b ≤ a ∧ a ≤ c)) := by
  unfold impl_within.f
  by_cases h : a ≥ b
  · rw [if_pos h]; congr 1; rw [Bool.eq_iff_iff, decide_eq_true_iff, decide_eq_true_iff]; omega
  · rw [if_neg h]; congr 1; symm; rw [decide_eq_false_iff_not]; omega

theorem impl_SizeOf_l0 (l : List Int) (hl : ¬ 3 < l.length) (d : Nat) : ∀ (i : Nat), i + d = l.length → inR (l.take i) = true → Ev (fun k => impl_SizeOf.l0 k (prod (l.take i)) l (l.length : Int) (i : Int)) (if inR l = true then (if prod l > 300 then -1 else prod l) else -1) := by
  induction d with
  | zero =>
    intro i hi hr
    have e : l.take i = l := List.take_of_length_le (by omega)
    rw [e] at hr ⊢
    rw [if_pos hr]
    refine Ev.step (f := fun _ => some (if prod l > 300 then -1 else prod l)) (fun k => ?_) (Ev.now _)
    simp only [impl_SizeOf.l0]; rw [if_neg (by omega)]
    by_cases h : prod l > 300
    · rw [if_pos h, if_pos h]
    · rw [if_neg h, if_neg h]
  | succ d ih =>
    intro i hi hr
    have hlt : i < l.length := by omega
    by_cases hx : 0 ≤ l[i] ∧ l[i] ≤ 300
    · have hr' := (inR_take_succ l i hlt).2 ⟨hr, hx⟩
      refine Ev.step (f := fun k => impl_SizeOf.l0 k (prod (l.take (i + 1))) l (l.length : Int) ((i + 1 : Nat) : Int)) (fun k => ?_) (ih (i + 1) (by omega) hr')
      simp only [impl_SizeOf.l0]
      rw [if_pos (by omega), if_pos (by omega), if_pos (by omega), impl_within_eq, rdn l i hlt, decide_eq_true hx]
      simp only [Option.bind_some, if_true]
      have hp := prod_take_le l (i + 1) hl hr'
      rw [w64s i (by omega), ← prod_take_succ l i hlt, w64 (by omega) (by omega)]
    · rw [if_neg (by rw [inR_not i hlt hx]; simp)]
      refine Ev.step (f := fun _ => some (-1)) (fun k => ?_) (Ev.now _)
      simp only [impl_SizeOf.l0]
      rw [if_pos (by omega), if_pos (by omega), if_pos (by omega), impl_within_eq, rdn l i hlt, decide_eq_false hx]
      rfl
theorem impl_SizeOf_ev (l : List Int) : Ev (fun k => impl_SizeOf.f k l) (szOf l) := by
  unfold impl_SizeOf.f szOf
  by_cases h : 3 < l.length
  · rw [if_pos h]; exact evPos (by omega) (Ev.now _)
  · rw [if_neg h]
    refine evNeg (by omega) ?_
    have := impl_SizeOf_l0 l h l.length 0 (by omega) (by simp [inR])
    simpa only [List.take_zero, prod, Int.ofNat_zero, Int.natCast_zero] using this

theorem impl_NumOk_eq (a : Int) : impl_NumOk.f a = some (okN a) := by
  unfold impl_NumOk.f; rw [impl_within_eq]; rfl

def p_ArrayOk1 (x : Int) : Bool := !okN x
theorem lit_ArrayOk1_eq (x : Int) : impl_ArrayOk_lit1.f x = some (p_ArrayOk1 x) := by
  unfold impl_ArrayOk_lit1.f; rw [impl_NumOk_eq]; rfl

theorem slices_IndexFunc_ArrayOk1_l0 (l : List Int) (hl : l.length ≤ 1048576) (d : Nat) : ∀ (i : Nat), i + d = l.length → (l.take i).all (fun x => !p_ArrayOk1 x) = true → ∃ r, Ev (fun k => slices_IndexFunc_ArrayOk1.l0 k l (l.length : Int) (i : Int)) r ∧ decide (r ≥ 0) = l.any p_ArrayOk1 := by
  induction d with
  | zero =>
    intro i hi ht
    refine ⟨-1, Ev.step (f := fun _ => some (-1)) (fun k => ?_) (Ev.now _), ?_⟩
    · simp only [slices_IndexFunc_ArrayOk1.l0]; rw [if_neg (by omega)]
    · have e : l.take i = l := List.take_of_length_le (by omega)
      rw [e] at ht
      symm; rw [show decide ((-1 : Int) ≥ 0) = false by decide, List.any_eq_false]
      intro x hx
      have := List.all_eq_true.1 ht x hx
      simpa using this
  | succ d ih =>
    intro i hi ht
    have hlt : i < l.length := by omega
    by_cases hx : p_ArrayOk1 l[i] = true
    · refine ⟨(i : Int), Ev.step (f := fun _ => some (i : Int)) (fun k => ?_) (Ev.now _), ?_⟩
      · simp only [slices_IndexFunc_ArrayOk1.l0]
        rw [if_pos (by omega), if_pos (by omega), if_pos (by omega), lit_ArrayOk1_eq, rdn l i hlt]; simp only [Option.bind_some]; rw [if_pos hx]
      · rw [decide_eq_true (by omega)]; symm; rw [List.any_eq_true]; exact ⟨_, List.getElem_mem hlt, hx⟩
    · obtain ⟨r, hr, h2⟩ := ih (i + 1) (by omega) (by rw [List.take_succ_eq_append_getElem hlt, List.all_append, ht]; simp [hx])
      refine ⟨r, Ev.step (f := fun k => slices_IndexFunc_ArrayOk1.l0 k l (l.length : Int) ((i + 1 : Nat) : Int)) (fun k => ?_) hr, h2⟩
      simp only [slices_IndexFunc_ArrayOk1.l0]
      rw [if_pos (by omega), if_pos (by omega), if_pos (by omega), lit_ArrayOk1_eq, rdn l i hlt]; simp only [Option.bind_some]; rw [if_neg hx, w64s i (by omega)]
theorem slices_ContainsFunc_ArrayOk1_ev (l : List Int) (hl : l.length ≤ 1048576) : Ev (fun k => slices_ContainsFunc_ArrayOk1.f k l) (l.any p_ArrayOk1) := by
  unfold slices_ContainsFunc_ArrayOk1.f slices_IndexFunc_ArrayOk1.f
  obtain ⟨r, hr, h⟩ := slices_IndexFunc_ArrayOk1_l0 l hl l.length 0 (by omega) (by simp)
  exact Ev.bind hr (evSome h)

theorem all_okN (d : List Int) : (!d.any p_ArrayOk1) = d.all okN := by
  rw [List.not_any_eq_all_not]; congr 1; funext x; simp [p_ArrayOk1]
theorem impl_ArrayOk_ev (s d : List Int) (hd : d.length ≤ 1048576) : Ev (fun k => impl_ArrayOk.f k s d) (arrayOk s d) := by
  unfold impl_ArrayOk.f arrayOk
  refine Ev.bind (impl_SizeOf_ev s) ?_
  by_cases h : (d.length : Int) = szOf s
  · exact evPos h (Ev.bind (slices_ContainsFunc_ArrayOk1_ev d hd) (evSome (by rw [all_okN, decide_eq_true h]; rfl)))
  · exact evNeg h (evSome (by rw [decide_eq_false h]; rfl))

theorem impl_copyArray_eq (s d : List Int) (hs : s.length ≤ 1048576) (hd : d.length ≤ 1048576) : impl_copyArray.f s d = some (s, d) := by
  unfold impl_copyArray.f
  rw [if_pos (by rw [List.length_nil]; omega), if_pos (by rw [List.length_nil]; omega)]; rfl

theorem impl_Rows_l0 (n : Int) (t d : List Int) (N M : Nat) (hn : n = (N : Int)) (hd : N * M = d.length) (hN : N ≤ 300) (hz : 0 < N → szOf t = (M : Int)) (h3 : d.length ≤ 300) (ht : t.length ≤ 2) (c : Nat) : ∀ (i : Nat) (o : List S26), i + c = N → o = (List.range i).map (row t d M) → Ev (fun k => impl_Rows.l0 k (szOf t) o (i : Int) (n :: t) d) (rowsN N t d M) := by
  induction c with
  | zero =>
    intro i o hi ho
    refine Ev.step (fun k => by rw [impl_Rows.l0]) ?_
    refine evPos (by simp only [List.length_cons]; omega) (evNeg ?_ (evSome ?_))
    · show ¬ (i : Int) < n; omega
    · rw [ho, show i = N by omega]; rfl
  | succ c ih =>
    intro i o hi ho
    have h1 : (i + 1) * M ≤ N * M := Nat.mul_le_mul_right _ (by omega)
    have h2 : (i + 1) * M = i * M + M := Nat.succ_mul i M
    have hol : o.length = i := by rw [ho]; simp
    refine Ev.step (fun k => by rw [impl_Rows.l0]) ?_
    refine evPos (by simp only [List.length_cons]; omega) (evPos ?_ (evPos (by simp only [List.length_cons]; omega) ?_))
    · show (i : Int) < n; omega
    rw [hz (by omega), w64s i (by omega), wmul i M (by omega), wmul (i + 1) M (by omega), Int.toNat_natCast, Int.toNat_natCast]
    refine evPos (by omega) (evPos (by omega) (evPos (by omega) (evBind0 (impl_copyArray_eq _ _ (by simp; omega) (by simp; omega)) ?_)))
    refine evPos (by omega) ?_
    rw [← hz (by omega)]
    exact ih (i + 1) _ (by omega) (by rw [ho, List.range_succ, List.map_append]; rfl)
theorem impl_Rows_ev (s d : List Int) (hd : d.length ≤ 1048576) : Ev (fun k => impl_Rows.f k s d) (rows s d) := by
  unfold impl_Rows.f
  refine Ev.bind (impl_ArrayOk_ev s d hd) ?_
  have hbad : Ev (fun k => impl_Rows.j0 k true s d) ([] : List S26) := Ev.step (fun k => by rw [impl_Rows.j0]) (evPos rfl (Ev.now _))
  cases s with
  | nil =>
    by_cases h : arrayOk [] d = true
    · exact evPos h hbad
    · exact evNeg h hbad
  | cons n t =>
    rw [rows_cons]
    by_cases h : arrayOk (n :: t) d = true
    · obtain ⟨f1, f2, f3, f4, f5, f6⟩ := rows_facts h
      rw [if_pos h]
      have e : (((n :: t).length : Int) == 0) = false := by
        rw [beq_eq_false_iff_ne]; simp only [List.length_cons]; omega
      refine evPos h ?_
      rw [e]
      refine Ev.step (fun k => by rw [impl_Rows.j0]) ?_
      refine evNeg (by simp) (evPos (by simp only [List.length_cons]; omega) (Ev.bind (impl_SizeOf_ev t) ?_))
      exact impl_Rows_l0 n t d n.toNat (prod t).toNat (Int.toNat_of_nonneg f1).symm f2 f3 f4 f5 f6 n.toNat 0 [] (by omega) rfl
    · rw [if_neg h]; exact evNeg h hbad

theorem spec_l1In_eq (a b c : Int) : spec_l1In.f a b c = some (decide (b ≤ a ∧ a ≤ c)) := by
  unfold spec_l1In.f
  by_cases h : a ≥ b
  · rw [if_pos h]; congr 1; rw [Bool.eq_iff_iff, decide_eq_true_iff, decide_eq_true_iff]; omega
  · rw [if_neg h]; congr 1; symm; rw [decide_eq_false_iff_not]; omega

theorem spec_SizeOf_l1 (l : List Int) (hl : ¬ 3 < l.length) (z : Bool) (hr : inR l = true) (hz : z = true → prod l = 0) (d : Nat) : ∀ (i : Nat), i + d = l.length → Ev (fun k => spec_SizeOf.l1 k l z (prod (l.take i)) (i : Int)) (if prod l > 300 then -1 else prod l) := by
  induction d with
  | zero =>
    intro i hi
    have e : l.take i = l := List.take_of_length_le (by omega)
    rw [e]
    refine Ev.step (f := fun _ => some (if prod l > 300 then -1 else prod l)) (fun k => ?_) (Ev.now _)
    simp only [spec_SizeOf.l1]; rw [if_neg (by omega)]
    by_cases h : prod l > 300
    · rw [if_pos h, if_pos h]
      rw [if_neg (by intro hh; have := hz hh; omega)]
    · rw [if_neg h, if_neg h]
  | succ d ih =>
    intro i hi
    have hlt : i < l.length := by omega
    have hr' := inR_take (i + 1) hr
    refine Ev.step (f := fun k => spec_SizeOf.l1 k l z (prod (l.take (i + 1))) ((i + 1 : Nat) : Int)) (fun k => ?_) (ih (i + 1) (by omega))
    simp only [spec_SizeOf.l1]
    have hp := prod_take_le l (i + 1) hl hr'
    rw [if_pos (by omega), if_pos (by omega), rdn l i hlt, w64s i (by omega), ← prod_take_succ l i hlt, w64 (by omega) (by omega)]
theorem prod_zero (l : List Int) (h : l.any (· == 0) = true) : prod l = 0 := by
  induction l with
  | nil => simp at h
  | cons a l ih =>
    rw [List.any_cons, Bool.or_eq_true] at h
    rcases h with h | h
    · have : a = 0 := by simpa using h
      rw [prod, this, Int.zero_mul]
    · rw [prod, ih h, Int.mul_zero]
theorem spec_SizeOf_l0 (l : List Int) (hl : ¬ 3 < l.length) (d : Nat) : ∀ (i : Nat) (z : Bool), i + d = l.length → inR (l.take i) = true → z = (l.take i).any (· == 0) → Ev (fun k => spec_SizeOf.l0 k l z (i : Int)) (if inR l = true then (if prod l > 300 then -1 else prod l) else -1) := by
  induction d with
  | zero =>
    intro i z hi hr hz
    have e : l.take i = l := List.take_of_length_le (by omega)
    rw [e] at hr hz
    rw [if_pos hr]
    refine Ev.step (f := fun k => spec_SizeOf.l1 k l z 1 0) (fun k => ?_) ?_
    · simp only [spec_SizeOf.l0]; rw [if_neg (by omega)]
    · exact spec_SizeOf_l1 l hl z hr (fun h => prod_zero l (by rw [← hz]; exact h)) l.length 0 (by omega)
  | succ d ih =>
    intro i z hi hr hz
    have hlt : i < l.length := by omega
    by_cases hx : 0 ≤ l[i] ∧ l[i] ≤ 300
    · have hr' := (inR_take_succ l i hlt).2 ⟨hr, hx⟩
      refine Ev.step (f := fun k => spec_SizeOf.l0 k l ((l.take (i + 1)).any (· == 0)) ((i + 1 : Nat) : Int)) (fun k => ?_) (ih (i + 1) _ (by omega) hr' rfl)
      simp only [spec_SizeOf.l0]
      rw [if_pos (by omega), if_pos (by omega), spec_l1In_eq, rdn l i hlt, decide_eq_true hx]
      simp only [Option.bind_some, if_true]
      rw [w64s i (by omega), List.take_succ_eq_append_getElem hlt, List.any_append, ← hz]
      cases z with
      | true => simp
      | false => simp
    · rw [if_neg (by rw [inR_not i hlt hx]; simp)]
      refine Ev.step (f := fun _ => some (-1)) (fun k => ?_) (Ev.now _)
      simp only [spec_SizeOf.l0]
      rw [if_pos (by omega), if_pos (by omega), spec_l1In_eq, rdn l i hlt, decide_eq_false hx]
      rfl
theorem spec_SizeOf_ev (l : List Int) : Ev (fun k => spec_SizeOf.f k l) (szOf l) := by
  unfold spec_SizeOf.f szOf
  by_cases h : 3 < l.length
  · rw [if_pos h]; exact evPos (by omega) (Ev.now _)
  · rw [if_neg h]
    refine evNeg (by omega) ?_
    exact spec_SizeOf_l0 l h l.length 0 false (by omega) (by simp [inR]) (by simp)

theorem spec_NumOk_eq (a : Int) : spec_NumOk.f a = some (okN a) := by
  unfold spec_NumOk.f; rw [spec_l1In_eq]; rfl

theorem spec_ArrayOk_l0 (s l : List Int) (hl : l.length ≤ 1048576) (d : Nat) : ∀ (i : Nat), i + d = l.length → (l.take i).all okN = true → Ev (fun k => spec_ArrayOk.l0 k (i : Int) s l) (l.all okN) := by
  induction d with
  | zero =>
    intro i hi ht
    refine Ev.step (f := fun _ => some true) (fun k => ?_) (evSome ?_)
    · simp only [spec_ArrayOk.l0]; rw [if_neg (by omega)]
    · rw [List.take_of_length_le (by omega)] at ht; exact ht.symm
  | succ d ih =>
    intro i hi ht
    have hlt : i < l.length := by omega
    by_cases hx : okN l[i] = true
    · refine Ev.step (f := fun k => spec_ArrayOk.l0 k ((i + 1 : Nat) : Int) s l) (fun k => ?_) (ih (i + 1) (by omega) (by rw [List.take_succ_eq_append_getElem hlt, List.all_append, ht]; simp [hx]))
      simp only [spec_ArrayOk.l0]
      rw [if_pos (by omega), if_pos (by omega), spec_NumOk_eq, rdn l i hlt]; simp only [Option.bind_some]; rw [if_pos hx, w64s i (by omega)]
    · refine Ev.step (f := fun _ => some false) (fun k => ?_) (evSome ?_)
      · simp only [spec_ArrayOk.l0]
        rw [if_pos (by omega), if_pos (by omega), spec_NumOk_eq, rdn l i hlt]; simp only [Option.bind_some]; rw [if_neg hx]
      · symm; rw [List.all_eq_false]; exact ⟨_, List.getElem_mem hlt, hx⟩
theorem spec_ArrayOk_ev (s d : List Int) (hd : d.length ≤ 1048576) : Ev (fun k => spec_ArrayOk.f k s d) (arrayOk s d) := by
  unfold spec_ArrayOk.f arrayOk
  refine Ev.bind (spec_SizeOf_ev s) ?_
  by_cases h : szOf s = (d.length : Int)
  · refine evPos h (evEq (spec_ArrayOk_l0 s d hd d.length 0 (by omega) (by simp)) ?_)
    rw [decide_eq_true h.symm]; rfl
  · exact evNeg h (evSome (by rw [decide_eq_false (fun e => h e.symm)]; rfl))

theorem spec_l3Rows_l0 (n : Int) (t d : List Int) (N M : Nat) (hn : n = (N : Int)) (hd : N * M = d.length) (hN : N ≤ 300) (hz : 0 < N → szOf t = (M : Int)) (h3 : d.length ≤ 300) (ht : t.length ≤ 2) (c : Nat) : ∀ (i : Nat) (o : List S26), i + c = N → o = (List.range i).map (row t d M) → Ev (fun k => spec_l3Rows.l0 k o (szOf t) (i : Int) (n :: t) d) (rowsN N t d M) := by
  induction c with
  | zero =>
    intro i o hi ho
    refine Ev.step (fun k => by rw [spec_l3Rows.l0]) ?_
    refine evPos (by simp only [List.length_cons]; omega) (evNeg ?_ (evSome ?_))
    · show ¬ (i : Int) < n; omega
    · rw [ho, show i = N by omega]; rfl
  | succ c ih =>
    intro i o hi ho
    have h1 : (i + 1) * M ≤ N * M := Nat.mul_le_mul_right _ (by omega)
    have h2 : (i + 1) * M = i * M + M := Nat.succ_mul i M
    have hol : o.length = i := by rw [ho]; simp
    have hiN : (i : Int) < n := by omega
    have hL : t.length < 17592186044416 := by omega
    have hO : o.length < 2932031007402 := by omega
    have hN0 : 0 < N := by omega
    have hM1 : i * M ≤ 1048576 := by omega
    have q1 : (0 : Int) ≤ ((i * M : Nat) : Int) := by omega
    have q2 : ((i * M : Nat) : Int) ≤ (((i + 1) * M : Nat) : Int) := by omega
    have q3 : (((i + 1) * M : Nat) : Int) ≤ (d.length : Int) := by omega
    have q4 : (i + 1) * M - i * M < 17592186044416 := by omega
    have q5 : (i + 1) * M ≤ d.length := by omega
    have q6 : wrap64 ((i : Int) + 1) = ((i + 1 : Nat) : Int) ∧ (i + 1) + c = N := ⟨w64s i (by omega), by omega⟩
    have hw : wrap64 (((i * M : Nat) : Int) + (M : Int)) = (((i + 1) * M : Nat) : Int) := by
      rw [h2] at h1 ⊢
      rw [w64 (by omega) (by omega), Int.natCast_add]
    have e1 : wrap64 ((i : Int) * szOf t) = ((i * M : Nat) : Int) := by rw [hz hN0, wmul i M hM1]
    have e2 : wrap64 (wrap64 ((i : Int) * szOf t) + szOf t) = (((i + 1) * M : Nat) : Int) := by rw [e1, hz hN0, hw]
    refine Ev.step (fun k => by rw [spec_l3Rows.l0]) ?_
    simp only [Option.bind_some, List.length_nil, List.nil_append, Nat.zero_add, List.drop_succ_cons, List.drop_zero]
    refine evPos (by simp only [List.length_cons]; exact Int.natCast_pos.2 (Nat.succ_pos _)) ?_
    refine evPos (show (i : Int) < n from hiN) ?_
    refine evPos (by simp only [List.length_cons]; exact Int.natCast_pos.2 (Nat.succ_pos _)) ?_
    refine evPos hL ?_
    refine evPos (by rw [e1]; exact q1) ?_
    refine evPos (by rw [e2, e1]; exact q2) ?_
    refine evPos (by rw [e2]; exact q3) ?_
    refine evPos (by rw [e2, e1, Int.toNat_natCast, Int.toNat_natCast, List.length_drop, List.length_take, Nat.min_eq_left q5]; exact q4) ?_
    refine evPos hO ?_
    rw [e2, e1, Int.toNat_natCast, Int.toNat_natCast, q6.1]
    exact ih (i + 1) _ q6.2 (by rw [ho, List.range_succ, List.map_append]; rfl)
theorem spec_Rows_ev (s d : List Int) (hd : d.length ≤ 1048576) : Ev (fun k => spec_Rows.f k s d) (rows s d) := by
  unfold spec_Rows.f
  refine Ev.bind (spec_ArrayOk_ev s d hd) ?_
  cases s with
  | nil =>
    by_cases h : arrayOk [] d = true
    · exact evPos h (evPos rfl (Ev.now _))
    · exact evNeg h (Ev.now _)
  | cons n t =>
    rw [rows_cons]
    by_cases h : arrayOk (n :: t) d = true
    · obtain ⟨f1, f2, f3, f4, f5, f6⟩ := rows_facts h
      rw [if_pos h]
      refine evPos h (evNeg (by simp only [List.length_cons]; omega) (Ev.bind (a := rowsN n.toNat t d (prod t).toNat) ?_ (Ev.now _)))
      unfold spec_l3Rows.f
      refine evPos (by simp only [List.length_cons]; omega) (Ev.bind (spec_SizeOf_ev t) ?_)
      exact spec_l3Rows_l0 n t d n.toNat (prod t).toNat (Int.toNat_of_nonneg f1).symm f2 f3 f4 f5 f6 n.toNat 0 [] (by omega) rfl
    · rw [if_neg h]; exact evNeg h (Ev.now _)

theorem slices_Equal_l0 (l m : List Int) (hl : l.length ≤ 35184372088832) (hm : l.length = m.length) (d : Nat) : ∀ (i : Nat), i + d = l.length → Ev (fun k => slices_Equal_int_int.l0 k l m (l.length : Int) (i : Int)) (decide (l.drop i = m.drop i)) := by
  induction d with
  | zero =>
    intro i hi
    refine Ev.step (f := fun _ => some (decide (l.drop i = m.drop i))) (fun k => ?_) (Ev.now _)
    simp only [slices_Equal_int_int.l0]
    rw [if_neg (by omega), List.drop_of_length_le (by omega), List.drop_of_length_le (by omega)]; simp
  | succ d ih =>
    intro i hi
    have hlt : i < l.length := by omega
    have hlt' : i < m.length := by omega
    have e1 := List.drop_eq_getElem_cons hlt
    have e2 := List.drop_eq_getElem_cons hlt'
    by_cases hx : l[i] = m[i]
    · refine Ev.step (f := fun k => slices_Equal_int_int.l0 k l m (l.length : Int) ((i + 1 : Nat) : Int)) (fun k => ?_) (evEq (ih (i + 1) (by omega)) ?_)
      · simp only [slices_Equal_int_int.l0]
        rw [if_pos (by omega), if_pos (by omega), if_pos (by omega), if_pos (by omega), rdn l i hlt, rdn m i hlt', if_pos hx, w64s i (by omega)]
      · rw [e1, e2, hx]; simp only [List.cons.injEq, true_and]
    · refine Ev.step (f := fun _ => some false) (fun k => ?_) (evSome ?_)
      · simp only [slices_Equal_int_int.l0]
        rw [if_pos (by omega), if_pos (by omega), if_pos (by omega), if_pos (by omega), rdn l i hlt, rdn m i hlt', if_neg hx]
      · rw [e1, e2]; symm; rw [decide_eq_false_iff_not]; intro h; exact hx (List.cons.inj h).1
theorem slices_Equal_ev (l m : List Int) (hl : l.length ≤ 35184372088832) : Ev (fun k => slices_Equal_int_int.f k l m) (decide (l = m)) := by
  unfold slices_Equal_int_int.f
  by_cases h : l.length = m.length
  · refine evPos (by omega) ?_
    exact slices_Equal_l0 l m hl h l.length 0 (by omega)
  · refine evNeg (by omega) (evSome ?_)
    symm; rw [decide_eq_false_iff_not]; intro e; exact h (by rw [e])

def arraySame (s d s' d' : List Int) : Bool := arrayOk s d && (arrayOk s' d' && (decide (s = s') && decide (d = d')))

theorem impl_ArraySame_ev (s d s' d' : List Int) (hs : s.length ≤ 1048576) (hd : d.length ≤ 1048576) (hd' : d'.length ≤ 1048576) : Ev (fun k => impl_ArraySame.f k s d s' d') (arraySame s d s' d') := by
  unfold impl_ArraySame.f arraySame
  refine Ev.bind (impl_ArrayOk_ev s d hd) ?_
  by_cases h1 : arrayOk s d = true
  · refine evPos h1 (Ev.bind (impl_ArrayOk_ev s' d' hd') ?_)
    by_cases h2 : arrayOk s' d' = true
    · refine evPos h2 (Ev.bind (slices_Equal_ev s s' (by omega)) ?_)
      by_cases h3 : s = s'
      · exact evPos (by simpa using h3) (Ev.bind (slices_Equal_ev d d' (by omega)) (evSome (by rw [h1, h2, decide_eq_true h3]; rfl)))
      · exact evNeg (by simpa using h3) (evSome (by rw [decide_eq_false h3]; simp))
    · exact evNeg h2 (evSome (by rw [Bool.eq_false_iff.2 h2]; simp))
  · exact evNeg h1 (evSome (by rw [Bool.eq_false_iff.2 h1]; simp))

/-- The index of a place: the last number goes round the quickest; and what is left. -/
def idx : List Int → Int → List Int × Int
  | [], p => ([], p)
  | n :: s, p => ((idx s p).2 % n :: (idx s p).1, (idx s p).2 / n)
def indexOf (s : List Int) (p : Int) : List Int := if 0 ≤ p ∧ p ≤ szOf s - 1 then (idx s p).1 else []
theorem idx_length : ∀ (s : List Int) (p : Int), (idx s p).1.length = s.length
  | [], _ => rfl
  | n :: s, p => by simp [idx, idx_length s p]
theorem idx_le : ∀ (s : List Int) (p : Int), 0 ≤ p → (∀ n ∈ s, 0 < n) → 0 ≤ (idx s p).2 ∧ (idx s p).2 ≤ p
  | [], p, h, _ => ⟨h, Int.le_refl p⟩
  | n :: s, p, h, hp => by
    obtain ⟨h1, h2⟩ := idx_le s p h (fun m hm => hp m (List.mem_cons_of_mem _ hm))
    have hn := hp n (List.mem_cons_self ..)
    have h3 := Int.ediv_nonneg h1 (Int.le_of_lt hn)
    have h4 := Int.ediv_le_self n h1
    exact ⟨h3, Int.le_trans h4 h2⟩
theorem pos_of_prod : ∀ (l : List Int), inR l = true → 0 < prod l → ∀ n ∈ l, 0 < n
  | [], _, _, n, hn => by cases hn
  | a :: l, h, hp, n, hn => by
    obtain ⟨⟨h0, h1⟩, h2⟩ := inR_cons.1 h
    have hl := (prod_le l h2).1
    have ha : 0 < a := by
      rcases Int.lt_or_eq_of_le h0 with h | h
      · exact h
      · subst h; simp [prod] at hp
    have hl2 : 0 < prod l := by
      rcases Int.lt_or_eq_of_le hl with h | h
      · exact h
      · rw [prod, ← h, Int.mul_zero] at hp; exact absurd hp (Int.lt_irrefl 0)
    rcases List.mem_cons.1 hn with rfl | hn
    · exact ha
    · exact pos_of_prod l h2 hl2 n hn
theorem size_pos {s : List Int} {p : Int} (h : 0 ≤ p ∧ p ≤ szOf s - 1) : ¬ 3 < s.length ∧ inR s = true ∧ (∀ n ∈ s, 0 < n) ∧ p < prod s ∧ prod s ≤ 300 ∧ szOf s = prod s := by
  obtain ⟨h1, h2, h3, h4⟩ := szOf_nonneg (l := s) (by omega)
  exact ⟨h1, h2, pos_of_prod s h2 (by omega), by omega, h3, h4⟩
theorem tdivmod {q n : Int} (h : 0 ≤ q) : Int.tdiv q n = q / n ∧ Int.tmod q n = q % n := ⟨Int.tdiv_eq_ediv_of_nonneg h, Int.tmod_eq_emod_of_nonneg h⟩

theorem impl_IndexOf_l0 (s : List Int) (p : Int) (hp : 0 ≤ p) (hp2 : p ≤ 1000) (hs : ¬ 3 < s.length) (hpos : ∀ n ∈ s, 0 < n) : ∀ (i : Nat) (m : List Int), i ≤ s.length → m.length = s.length → m.drop i = (idx (s.drop i) p).1 → Ev (fun k => impl_IndexOf.l0 k s (idx (s.drop i) p).2 m ((i : Int) - 1)) (idx s p).1 := by
  intro i
  induction i with
  | zero =>
    intro m _ hm ht
    refine Ev.step (f := fun _ => some m) (fun k => ?_) (evSome (by simpa using ht))
    simp only [impl_IndexOf.l0]; rw [if_neg (by omega)]
  | succ i ih =>
    intro m hi hm ht
    have hlt : i < s.length := by omega
    have hn : 0 < s[i] := hpos _ (List.getElem_mem hlt)
    obtain ⟨hq0, hq1⟩ := idx_le (s.drop (i + 1)) p hp (fun n hn => hpos n (List.mem_of_mem_drop hn))
    have e := List.drop_eq_getElem_cons hlt
    refine Ev.step (f := fun k => impl_IndexOf.l0 k s (idx (s.drop i) p).2 (m.set i ((idx (s.drop (i + 1)) p).2 % s[i])) ((i : Int) - 1)) (fun k => ?_) (ih (m.set i ((idx (s.drop (i + 1)) p).2 % s[i])) (by omega) (by rw [List.length_set, hm]) ?_)
    · simp only [impl_IndexOf.l0]
      have e1 : ((i + 1 : Nat) : Int) - 1 = (i : Int) := by omega
      rw [e1, if_pos (by omega), if_pos (by omega), if_pos (by omega), rdn s i hlt, if_neg (by omega), if_pos (by omega), (tdivmod hq0).1, (tdivmod hq0).2, Int.toNat_natCast]
      have h3 := Int.ediv_nonneg hq0 (Int.le_of_lt hn)
      have h4 := Int.ediv_le_self s[i] hq0
      rw [w64 (x := (idx (s.drop (i + 1)) p).2 / s[i]) (by omega) (by omega), w64 (x := (i : Int) - 1) (by omega) (by omega), e]
      rfl
    · rw [e, List.drop_eq_getElem_cons (by rw [List.length_set]; omega), List.getElem_set_self, List.drop_set_of_lt (by omega), ht]
      rfl
theorem impl_IndexOf_ev (s : List Int) (p : Int) : Ev (fun k => impl_IndexOf.f k s p) (indexOf s p) := by
  unfold impl_IndexOf.f indexOf
  refine Ev.bind (impl_SizeOf_ev s) ?_
  have hg := szOf_ge s
  refine evBind0 (by rw [impl_within_eq, w64 (by omega) (by omega)]) ?_
  by_cases h : 0 ≤ p ∧ p ≤ szOf s - 1
  · obtain ⟨h1, h2, h3, h4, h5, h6⟩ := size_pos h
    rw [if_pos h]
    refine evPos (by simpa using h) (evPos (by omega) (evPos (by omega) ?_))
    have := impl_IndexOf_l0 s p h.1 (by omega) h1 h3 s.length (List.replicate s.length 0) (Nat.le_refl _) (by simp) (by simp [idx])
    rw [w64 (by omega) (by omega)]
    simpa [idx] using this
  · rw [if_neg h]
    exact evNeg (by simpa using h) (Ev.now _)

def numAt (s d x : List Int) : Int × Bool := if arrayOk s d = true ∧ placeOf s x ≥ 0 then (rd d (placeOf s x), true) else (0, false)
theorem placeGo_lt : ∀ (s x : List Int) (a : Int), s.length = x.length → 0 ≤ a → placeGo a s x ≥ 0 → inR s = true → placeGo a s x < (a + 1) * prod s ∧ 0 ≤ placeGo a s x
  | [], [], a, _, h0, h, _ => by simp [placeGo, prod]; omega
  | [], _ :: _, _, hl, _, _, _ => by simp at hl
  | _ :: _, [], _, hl, _, _, _ => by simp at hl
  | n :: s, i :: x, a, hl, h0, h, hr => by
    obtain ⟨⟨hn0, hn1⟩, hr2⟩ := inR_cons.1 hr
    unfold placeGo at h ⊢
    by_cases hx : 0 ≤ i ∧ i ≤ n - 1
    · rw [if_pos hx] at h ⊢
      have hm := Int.mul_nonneg h0 hn0
      obtain ⟨h1, h2⟩ := placeGo_lt s x (a * n + i) (by simpa using hl) (by omega) h hr2
      refine ⟨Int.lt_of_lt_of_le h1 ?_, h2⟩
      rw [prod, ← Int.mul_assoc]
      have hp := (prod_le s hr2).1
      refine Int.mul_le_mul_of_nonneg_right ?_ hp
      rw [Int.add_mul, Int.one_mul]; omega
    · rw [if_neg hx] at h; omega
theorem placeOf_lt {s d x : List Int} (ha : arrayOk s d = true) (h : placeOf s x ≥ 0) : placeOf s x < d.length := by
  obtain ⟨h1, _, _, _, h2⟩ := arrayOk_t ha
  obtain ⟨_, h3, _, h4⟩ := szOf_nonneg h2
  unfold placeOf at h ⊢
  by_cases hc : szOf s ≥ 0 ∧ x.length = s.length
  · rw [if_pos hc] at h ⊢
    have := (placeGo_lt s x 0 hc.2.symm (by omega) h h3).1
    rw [Int.zero_add, Int.one_mul] at this; omega
  · rw [if_neg hc] at h; omega

theorem impl_ShapeOk_ev (l : List Int) : Ev (fun k => impl_ShapeOk.f k l) (decide (szOf l ≥ 0)) := by
  unfold impl_ShapeOk.f
  exact Ev.bind (impl_SizeOf_ev l) (Ev.now _)

theorem impl_PlaceOf_l0 (s x : List Int) (hs : ¬ 3 < s.length) (hr : inR s = true) (hx : x.length = s.length) (d : Nat) : ∀ (i : Nat) (a : Int), i + d = s.length → 0 ≤ a → a ≤ pb i → Ev (fun k => impl_PlaceOf.l0 k x a s (s.length : Int) (i : Int)) (placeGo a (s.drop i) (x.drop i)) := by
  induction d with
  | zero =>
    intro i a hi h0 h1
    have e : s.drop i = [] := List.drop_of_length_le (by omega)
    refine Ev.step (f := fun _ => some a) (fun k => ?_) (evSome ?_)
    · simp only [impl_PlaceOf.l0]; rw [if_neg (by omega)]
    · rw [e]; rfl
  | succ d ih =>
    intro i a hi h0 h1
    have hlt : i < s.length := by omega
    have hlt' : i < x.length := by omega
    rw [List.drop_eq_getElem_cons hlt, List.drop_eq_getElem_cons hlt']
    have hr1 := ((inR_take_succ s i hlt).1 (inR_take (i + 1) hr)).2
    have hp1 : pb i ≤ 28000000 := pb_le (by omega)
    have hq : wrap64 (s[i] - 1) = s[i] - 1 := by rw [w64] <;> omega
    unfold placeGo
    by_cases hx1 : 0 ≤ x[i] ∧ x[i] ≤ s[i] - 1
    · rw [if_pos hx1]
      have hm := mul300 h0 h1 hr1.1 hr1.2
      have hp2 : pb (i + 1) = 300 * pb i + 300 := rfl
      have hu : a * s[i] + x[i] ≤ pb (i + 1) := by omega
      refine Ev.step (f := fun k => impl_PlaceOf.l0 k x (a * s[i] + x[i]) s (s.length : Int) ((i + 1 : Nat) : Int)) (fun k => ?_) (ih (i + 1) _ (by omega) (by omega) hu)
      simp only [impl_PlaceOf.l0]
      rw [if_pos (by omega), if_pos (by omega), if_pos (by omega), if_pos (by omega), impl_within_eq, rdn x i hlt', rdn s i hlt, hq, decide_eq_true hx1]
      simp only [Option.bind_some, if_true]
      rw [w64s i (by omega), w64 (x := a * s[i]) (by omega) (by omega), w64 (by omega) (by omega)]
    · rw [if_neg hx1]
      refine Ev.step (f := fun _ => some (-1)) (fun k => ?_) (Ev.now _)
      simp only [impl_PlaceOf.l0]
      rw [if_pos (by omega), if_pos (by omega), if_pos (by omega), if_pos (by omega), impl_within_eq, rdn x i hlt', rdn s i hlt, hq, decide_eq_false hx1]
      rfl
theorem impl_PlaceOf_ev (s x : List Int) : Ev (fun k => impl_PlaceOf.f k s x) (placeOf s x) := by
  unfold impl_PlaceOf.f placeOf
  refine Ev.bind (impl_ShapeOk_ev s) ?_
  by_cases h1 : szOf s ≥ 0
  · refine evPos (by simpa using h1) ?_
    obtain ⟨hl, hr, _, _⟩ := szOf_nonneg h1
    by_cases h2 : x.length = s.length
    · rw [if_pos ⟨h1, h2⟩, show ((x.length : Int) != (s.length : Int)) = false by simp [h2]]
      refine Ev.step (f := fun k => impl_PlaceOf.l0 k x 0 s (s.length : Int) 0) (fun k => ?_) (impl_PlaceOf_l0 s x hl hr h2 s.length 0 0 (by omega) (by omega) (by simp [pb]))
      simp only [impl_PlaceOf.j0]; rw [if_neg (by simp)]
    · rw [if_neg (fun h => h2 h.2), show ((x.length : Int) != (s.length : Int)) = true by simp; omega]
      refine Ev.step (f := fun _ => some (-1)) (fun k => ?_) (Ev.now _)
      rw [impl_PlaceOf.j0]; exact if_pos rfl
  · refine evNeg (by simpa using h1) ?_
    rw [if_neg (fun h => h1 h.1)]
    refine Ev.step (f := fun _ => some (-1)) (fun k => ?_) (Ev.now _)
    rw [impl_PlaceOf.j0]; exact if_pos rfl

theorem impl_NumAt_ev (s d x : List Int) (hd : d.length ≤ 1048576) : Ev (fun k => impl_NumAt.f k s d x) (numAt s d x) := by
  unfold impl_NumAt.f numAt
  refine Ev.bind (impl_PlaceOf_ev s x) (Ev.bind (impl_ArrayOk_ev s d hd) ?_)
  by_cases h1 : arrayOk s d = true
  · refine evPos h1 ?_
    by_cases h2 : placeOf s x ≥ 0
    · exact evEq (evNeg (by omega) (evPos (by omega) (evPos (placeOf_lt h1 h2) (Ev.now _)))) (if_pos (And.intro h1 h2)).symm
    · exact evEq (evPos (by omega) (Ev.now _)) (if_neg (fun h : _ ∧ _ => h2 h.2)).symm
  · exact evEq (evNeg h1 (Ev.now _)) (if_neg (fun h : _ ∧ _ => h1 h.1)).symm

theorem idx_snd : ∀ (s : List Int) (p : Int), (∀ n ∈ s, 0 < n) → (idx s p).2 = p / prod s
  | [], p, _ => by simp [idx, prod]
  | n :: s, p, h => by
    have h1 := idx_snd s p (fun m hm => h m (List.mem_cons_of_mem _ hm))
    have hp : 0 ≤ prod s := by
      have : ∀ (l : List Int), (∀ n ∈ l, 0 < n) → 0 ≤ prod l := by
        intro l
        induction l with
        | nil => intro _; decide
        | cons a l ih => intro hl; exact Int.mul_nonneg (Int.le_of_lt (hl a (List.mem_cons_self ..))) (ih (fun m hm => hl m (List.mem_cons_of_mem _ hm)))
      exact this s (fun m hm => h m (List.mem_cons_of_mem _ hm))
    show (idx s p).2 / n = p / (n * prod s)
    rw [h1, Int.ediv_ediv_of_nonneg hp, Int.mul_comm (prod s) n]
theorem placeGo_idx : ∀ (s : List Int) (p a : Int), (∀ n ∈ s, 0 < n) → placeGo a s (idx s p).1 = a * prod s + p - (idx s p).2 * prod s
  | [], p, a, _ => by simp [idx, prod, placeGo]
  | n :: s, p, a, h => by
    have hn := h n (List.mem_cons_self ..)
    have h0 := Int.emod_nonneg (idx s p).2 (show n ≠ 0 by omega)
    have h1 := Int.emod_lt_of_pos (idx s p).2 hn
    show (if 0 ≤ (idx s p).2 % n ∧ (idx s p).2 % n ≤ n - 1 then placeGo (a * n + (idx s p).2 % n) s (idx s p).1 else -1) = a * (n * prod s) + p - (idx s p).2 / n * (n * prod s)
    rw [if_pos (by omega), placeGo_idx s p _ (fun m hm => h m (List.mem_cons_of_mem _ hm))]
    have h2 := Int.mul_ediv_add_emod (idx s p).2 n
    generalize (idx s p).2 = q at *
    generalize prod s = P at *
    generalize hr : q % n = r at *
    generalize ht : q / n = t at *
    have e1 : (a * n + r) * P = a * (n * P) + r * P := by rw [Int.add_mul, Int.mul_assoc]
    have e2 : q * P = t * (n * P) + r * P := by rw [← h2, Int.add_mul, Int.mul_assoc, Int.mul_left_comm]
    rw [e1, e2]; omega
theorem place_index {s : List Int} {p : Int} (h : 0 ≤ p ∧ p ≤ szOf s - 1) : placeOf s (indexOf s p) = p := by
  obtain ⟨h1, h2, h3, h4, h5, h6⟩ := size_pos h
  unfold placeOf indexOf
  rw [if_pos h, if_pos ⟨by omega, idx_length s p⟩, placeGo_idx s p 0 h3, idx_snd s p h3, Int.ediv_eq_zero_of_lt h.1 h4]
  omega
theorem idx_placeGo : ∀ (s x : List Int) (a : Int), s.length = x.length → 0 ≤ a → placeGo a s x ≥ 0 → idx s (placeGo a s x) = (x, a)
  | [], [], a, _, _, _ => by simp [placeGo, idx]
  | [], _ :: _, _, hl, _, _ => by simp at hl
  | _ :: _, [], _, hl, _, _ => by simp at hl
  | n :: s, i :: x, a, hl, h0, h => by
    unfold placeGo at h ⊢
    by_cases hx : 0 ≤ i ∧ i ≤ n - 1
    · rw [if_pos hx] at h ⊢
      have hm := Int.mul_nonneg h0 (show 0 ≤ n by omega)
      have ih := idx_placeGo s x (a * n + i) (by simpa using hl) (by omega) h
      have e1 : (a * n + i) % n = i := by rw [Int.add_comm, Int.add_mul_emod_self_right, Int.emod_eq_of_lt hx.1 (by omega)]
      have e2 : (a * n + i) / n = a := by rw [Int.add_comm, Int.add_mul_ediv_right _ _ (by omega), Int.ediv_eq_zero_of_lt hx.1 (by omega), Int.zero_add]
      show ((idx s (placeGo (a * n + i) s x)).2 % n :: (idx s (placeGo (a * n + i) s x)).1, (idx s (placeGo (a * n + i) s x)).2 / n) = _
      rw [ih]; dsimp only; rw [e1, e2]
    · rw [if_neg hx] at h; omega
theorem placeGo_le : ∀ (s x : List Int) (a : Int), s.length = x.length → 0 ≤ a → placeGo a s x ≥ 0 → (∀ n ∈ s, 0 ≤ n) → placeGo a s x < (a + 1) * prod s
  | [], [], a, _, h0, _, _ => by simp [placeGo, prod]; omega
  | [], _ :: _, _, hl, _, _, _ => by simp at hl
  | _ :: _, [], _, hl, _, _, _ => by simp at hl
  | n :: s, i :: x, a, hl, h0, h, hn => by
    unfold placeGo at h ⊢
    by_cases hx : 0 ≤ i ∧ i ≤ n - 1
    · rw [if_pos hx] at h ⊢
      have hm := Int.mul_nonneg h0 (show 0 ≤ n by omega)
      have hp : 0 ≤ prod s := by
        have : ∀ (l : List Int), (∀ n ∈ l, 0 ≤ n) → 0 ≤ prod l := by
          intro l
          induction l with
          | nil => intro _; decide
          | cons a l ih => intro hl; exact Int.mul_nonneg (hl a (List.mem_cons_self ..)) (ih (fun m hm => hl m (List.mem_cons_of_mem _ hm)))
        exact this s (fun m hm => hn m (List.mem_cons_of_mem _ hm))
      refine Int.lt_of_lt_of_le (placeGo_le s x (a * n + i) (by simpa using hl) (by omega) h (fun m hm => hn m (List.mem_cons_of_mem _ hm))) ?_
      rw [prod, ← Int.mul_assoc]
      refine Int.mul_le_mul_of_nonneg_right ?_ hp
      rw [Int.add_mul, Int.one_mul]; omega
    · rw [if_neg hx] at h; omega
theorem index_place {s x : List Int} (h : placeOf s x ≥ 0) : indexOf s (placeOf s x) = x := by
  unfold placeOf at h ⊢
  by_cases hc : szOf s ≥ 0 ∧ x.length = s.length
  · rw [if_pos hc] at h ⊢
    obtain ⟨h1, h2, h3, h4⟩ := szOf_nonneg hc.1
    have hn : ∀ n ∈ s, 0 ≤ n := fun n hm => by
      have := List.all_eq_true.1 h2 n hm; have := of_decide_eq_true this; omega
    have h5 := placeGo_le s x 0 hc.2.symm (by omega) h hn
    rw [Int.zero_add, Int.one_mul] at h5
    unfold indexOf
    rw [if_pos (by omega), idx_placeGo s x 0 hc.2.symm (by omega) h]
  · rw [if_neg hc] at h; omega

theorem laws_big_eq (l : List Int) : laws_big.f l = some (decide ((l.length : Int) > 1048576)) := rfl

theorem and255 (x : Int) : 0 ≤ Go.bits .and .i64 x 255 ∧ Go.bits .and .i64 x 255 ≤ 255 := by
  have h : Go.bits .and .i64 x 255 = IntKind.i64.wrap (((BitVec.ofInt 64 x).toNat &&& 255 : Nat) : Int) := by
    simp only [Go.bits, BitVec.toNat_and]; rfl
  have h2 : (BitVec.ofInt 64 x).toNat &&& 255 ≤ 255 := Nat.and_le_right
  rw [h, IntKind.wrap_i64]; omega
/-- A cursor's place lies in its bytes. -/
def Cu (c : List Int) (i : Int) : Prop := 0 ≤ i ∧ i ≤ c.length
theorem spec_l1Byte_dr (c : List Int) (i h : Int) (hc : Cu c i) (hl : c.length ≤ 1048576) : ∃ x i' h', spec_l1Byte.f c i h = some (x, i', h') ∧ (0 ≤ x ∧ x ≤ 255) ∧ Cu c i' := by
  obtain ⟨h0, h1⟩ := hc
  unfold spec_l1Byte.f
  by_cases h2 : i < (c.length : Int)
  · rw [if_pos h2, if_pos h0, w64 (x := i + 1) (by omega) (by omega)]
    exact ⟨_, _, _, rfl, and255 _, by omega, by omega⟩
  · rw [if_neg h2]
    exact ⟨_, _, _, rfl, and255 _, h0, h1⟩
theorem spec_l1Below_dr (c : List Int) (i h n : Int) (hc : Cu c i) (hl : c.length ≤ 1048576) : ∃ x i' h', spec_l1Below.f c i h n = some (x, i', h') ∧ (0 ≤ x ∧ (x < n ∨ n ≤ 0 ∧ x = 0)) ∧ Cu c i' := by
  unfold spec_l1Below.f
  by_cases h1 : n ≤ 0
  · rw [if_pos h1]; exact ⟨_, _, _, rfl, ⟨by omega, .inr ⟨h1, rfl⟩⟩, hc⟩
  · rw [if_neg h1]
    by_cases h2 : n ≤ 256
    · obtain ⟨x, i', h', e, hx, hc'⟩ := spec_l1Byte_dr c i h hc hl
      rw [if_pos h2, e, Option.bind_some, if_neg (by omega)]
      have h3 := Int.tmod_eq_emod_of_nonneg (b := n) hx.1
      have h4 := Int.emod_nonneg x (show n ≠ 0 by omega)
      have h5 := Int.emod_lt_of_pos x (show 0 < n by omega)
      exact ⟨_, _, _, rfl, ⟨by rw [h3]; exact h4, .inl (by rw [h3]; exact h5)⟩, hc'⟩
    · obtain ⟨x, i1, h1', e1, hx, hc1⟩ := spec_l1Byte_dr c i h hc hl
      obtain ⟨y, i2, h2', e2, hy, hc2⟩ := spec_l1Byte_dr c i1 h1' hc1 hl
      obtain ⟨z, i3, h3', e3, hz, hc3⟩ := spec_l1Byte_dr c i2 h2' hc2 hl
      obtain ⟨u, i4, h4', e4, hu, hc4⟩ := spec_l1Byte_dr c i3 h3' hc3 hl
      rw [if_neg h2, e1, Option.bind_some]; dsimp only
      rw [e2, Option.bind_some]; dsimp only
      rw [e3, Option.bind_some]; dsimp only
      rw [e4, Option.bind_some]; dsimp only
      rw [if_neg (by omega), w64 (x := x * 16777216) (by omega) (by omega), w64 (x := y * 65536) (by omega) (by omega), w64 (x := x * 16777216 + y * 65536) (by omega) (by omega), w64 (x := z * 256) (by omega) (by omega), w64 (x := x * 16777216 + y * 65536 + z * 256) (by omega) (by omega), w64 (x := x * 16777216 + y * 65536 + z * 256 + u) (by omega) (by omega)]
      generalize hq : x * 16777216 + y * 65536 + z * 256 + u = q
      have h3 := Int.tmod_eq_emod_of_nonneg (b := n) (show 0 ≤ q by omega)
      have h4 := Int.emod_nonneg q (show n ≠ 0 by omega)
      have h5 := Int.emod_lt_of_pos q (show 0 < n by omega)
      exact ⟨_, _, _, rfl, ⟨by rw [h3]; exact h4, .inl (by rw [h3]; exact h5)⟩, hc4⟩

theorem spec_l1New_l0 (c : List Int) (hl : c.length ≤ 1048576) (d : Nat) : ∀ (i : Nat) (h : Int), i + d = c.length → ∃ h', Ev (fun k => spec_l1New.l0 k c h (i : Int)) (c, 0, h') := by
  induction d with
  | zero =>
    intro i h hi
    refine ⟨h, Ev.step (f := fun _ => some (c, 0, h)) (fun k => ?_) (Ev.now _)⟩
    simp only [spec_l1New.l0]; rw [if_neg (by omega)]
  | succ d ih =>
    intro i h hi
    by_cases h4 : (i : Int) < 4000
    · obtain ⟨h', e⟩ := ih (i + 1) (Go.bits .and .i64 (wrap64 ((wrap64 ((wrap64 (h * 131)) + (wrap64 (rd c (i : Int))))) + 7)) 1073741823) (by omega)
      refine ⟨h', Ev.step (fun k => ?_) e⟩
      simp only [spec_l1New.l0]
      rw [if_pos (by omega), if_pos h4, if_pos (by omega), w64s i (by omega)]
    · refine ⟨h, Ev.step (f := fun _ => some (c, 0, h)) (fun k => ?_) (Ev.now _)⟩
      simp only [spec_l1New.l0]; rw [if_pos (by omega), if_neg h4]
theorem spec_l1New_dr (c : List Int) (hl : c.length ≤ 1048576) : ∃ h, Ev (fun k => spec_l1New.f k c) (c, 0, h) := by
  unfold spec_l1New.f
  exact spec_l1New_l0 c hl c.length 0 _ (by omega)
theorem cu0 (c : List Int) : Cu c 0 := ⟨Int.le_refl 0, by omega⟩

theorem spec_l1PickInt_dr (c : List Int) (i h : Int) (l : List Int) (hn : 0 < l.length) (hc : Cu c i) (hl : c.length ≤ 1048576) : ∃ x i' h', spec_l1PickInt.f c i h l = some (x, i', h') ∧ x ∈ l ∧ Cu c i' := by
  obtain ⟨x, i', h', e, hx, hc'⟩ := spec_l1Below_dr c i h (l.length : Int) hc hl
  have h1 : x < (l.length : Int) := by omega
  have h2 : x.toNat < l.length := by omega
  unfold spec_l1PickInt.f; rw [e, Option.bind_some]; dsimp only
  rw [if_pos hx.1, if_pos h1]
  refine ⟨_, _, _, rfl, ?_, hc'⟩
  simp only [rd, List.getD_eq_getElem?_getD, List.getElem?_eq_getElem h2, Option.getD_some]
  exact List.getElem_mem h2

theorem spec_l2DrawRight_dr (c : List Int) (i h : Int) (hc : Cu c i) (hl : c.length ≤ 1048576) : ∃ s i' h', Ev (fun k => spec_l2DrawRight.f k c i h) (s, i', h') ∧ (s.length ≤ 3 ∧ ∀ x ∈ s, 0 ≤ x ∧ x ≤ 5) ∧ Cu c i' := by
  unfold spec_l2DrawRight.f
  obtain ⟨x, i1, h1, e1, hx, hc1⟩ := spec_l1Below_dr c i h 5 hc hl
  by_cases x0 : x = 0
  · exact ⟨_, _, _, evBind0 e1 (evPos x0 (Ev.now _)), ⟨by simp, by simp⟩, hc1⟩
  · have hj : ∀ b, ∃ s i' h', Ev (fun k => spec_l2DrawRight.j0 k x b c i1 h1) (s, i', h') ∧ (s.length ≤ 3 ∧ ∀ x ∈ s, 0 ≤ x ∧ x ≤ 5) ∧ Cu c i' := by
      intro b
      cases b with
      | true =>
        obtain ⟨y, i2, h2, e2, hy, hc2⟩ := spec_l1Below_dr c i1 h1 6 hc1 hl
        refine ⟨_, _, _, Ev.step (fun k => by rw [spec_l2DrawRight.j0]) (evPos rfl (evBind0 e2 (Ev.now _))), ?_, hc2⟩
        dsimp only
        refine ⟨by simp, fun z hz => ?_⟩
        rw [List.mem_singleton] at hz; omega
      | false =>
        by_cases x3 : x = 3
        · obtain ⟨y, i2, h2, e2, hy, hc2⟩ := spec_l1Below_dr c i1 h1 4 hc1 hl
          obtain ⟨z, i3, h3, e3, hz, hc3⟩ := spec_l1Below_dr c i2 h2 3 hc2 hl
          refine ⟨[y, wrap64 (1 + z)], i3, h3, Ev.step (fun k => by rw [spec_l2DrawRight.j0]) (evNeg (by simp) (evPos x3 (evBind0 e2 ?_))), ?_, hc3⟩
          · exact evBind0 (a := (z, i3, h3)) e3 (Ev.now ([y, wrap64 (1 + z)], i3, h3))
          rw [w64 (x := 1 + z) (by omega) (by omega)]
          refine ⟨by simp, fun u hu => ?_⟩
          simp only [List.mem_cons, List.not_mem_nil, or_false] at hu; omega
        · obtain ⟨y, i2, h2, e2, hy, hc2⟩ := spec_l1Below_dr c i1 h1 3 hc1 hl
          obtain ⟨z, i3, h3, e3, hz, hc3⟩ := spec_l1Below_dr c i2 h2 2 hc2 hl
          obtain ⟨v, i4, h4, e4, hv, hc4⟩ := spec_l1Below_dr c i3 h3 4 hc3 hl
          refine ⟨[wrap64 (1 + y), wrap64 (1 + z), v], i4, h4, Ev.step (fun k => by rw [spec_l2DrawRight.j0]) (evNeg (by simp) (evNeg x3 (evBind0 e2 ?_))), ?_, hc4⟩
          · exact evBind0 (a := (z, i3, h3)) e3 (evBind0 (a := (v, i4, h4)) e4 (Ev.now ([wrap64 (1 + y), wrap64 (1 + z), v], i4, h4)))
          rw [w64 (x := 1 + y) (by omega) (by omega), w64 (x := 1 + z) (by omega) (by omega)]
          refine ⟨by simp, fun u hu => ?_⟩
          simp only [List.mem_cons, List.not_mem_nil, or_false] at hu; omega
    by_cases x1 : x = 1
    · obtain ⟨s, i', h', e, r⟩ := hj (x == 1)
      exact ⟨s, i', h', evBind0 e1 (evNeg x0 (evPos x1 e)), r⟩
    · obtain ⟨s, i', h', e, r⟩ := hj (x == 2)
      exact ⟨s, i', h', evBind0 e1 (evNeg x0 (evNeg x1 e)), r⟩
theorem spec_l2Draw_dr (c : List Int) (i h : Int) (hc : Cu c i) (hl : c.length ≤ 1048576) : ∃ s i' h', Ev (fun k => spec_l2Draw.f k c i h) (s, i', h') ∧ (s.length ≤ 4 ∧ ∀ x ∈ s, -1 ≤ x ∧ x ≤ 301) ∧ Cu c i' := by
  unfold spec_l2Draw.f
  obtain ⟨s, i1, h1, e1, ⟨hs, hx⟩, hc1⟩ := spec_l2DrawRight_dr c i h hc hl
  obtain ⟨x, i2, h2, e2, _, hc2⟩ := spec_l1Below_dr c i1 h1 20 hc1 hl
  by_cases x0 : x = 0
  · obtain ⟨y, i3, h3, e3, hy, hc3⟩ := spec_l1PickInt_dr c i2 h2 [-1, 0, 300, 301] (by decide) hc2 hl
    refine ⟨_, _, _, Ev.bind e1 (evBind0 e2 (evPos x0 (evBind0 e3 (evPos (by dsimp only; omega) (Ev.now _))))), ?_, hc3⟩
    dsimp only
    refine ⟨by rw [List.length_append]; simp; omega, fun u hu => ?_⟩
    rw [List.mem_append, List.mem_singleton] at hu
    simp only [List.mem_cons, List.not_mem_nil, or_false] at hy
    rcases hu with hu | hu
    · have := hx u hu; omega
    · omega
  by_cases x1 : x = 1
  · exact ⟨_, _, _, Ev.bind e1 (evBind0 e2 (evNeg x0 (evPos x1 (Ev.now _)))), ⟨by simp, by simp⟩, hc2⟩
  by_cases x2 : x = 2
  · obtain ⟨y, i3, h3, e3, hy, hc3⟩ := spec_l1PickInt_dr c i2 h2 [17, 20, 15, 300] (by decide) hc2 hl
    obtain ⟨z, i4, h4, e4, hz, hc4⟩ := spec_l1PickInt_dr c i3 h3 [15, 20, 16, 0] (by decide) hc3 hl
    refine ⟨_, _, _, Ev.bind e1 (evBind0 e2 (evNeg x0 (evNeg x1 (evPos x2 (evBind0 e3 (evBind0 e4 (Ev.now _))))))), ?_, hc4⟩
    dsimp only
    refine ⟨by simp, fun u hu => ?_⟩
    simp only [List.mem_cons, List.not_mem_nil, or_false] at hu hy hz; omega
  · exact ⟨_, _, _, Ev.bind e1 (evBind0 e2 (evNeg x0 (evNeg x1 (evNeg x2 (Ev.now _))))), ⟨by dsimp only; omega, fun u hu => by have := hx u hu; omega⟩, hc2⟩

theorem spec_l1Once_dr (c : List Int) (i h n : Int) (hc : Cu c i) (hl : c.length ≤ 1048576) : ∃ x i' h', spec_l1Once.f c i h n = some (x, i', h') ∧ Cu c i' := by
  obtain ⟨x, i', h', e, _, hc'⟩ := spec_l1Below_dr c i h n hc hl
  unfold spec_l1Once.f; rw [e, Option.bind_some]
  exact ⟨_, _, _, rfl, hc'⟩

theorem spec_l1DrawNum_dr (c : List Int) (i h : Int) (hc : Cu c i) (hl : c.length ≤ 1048576) : ∃ x i' h', spec_l1DrawNum.f c i h = some (x, i', h') ∧ (-1000000000000 ≤ x ∧ x ≤ 1000000000000) ∧ Cu c i' := by
  obtain ⟨b, i1, h1, e1, hc1⟩ := spec_l1Once_dr c i h 12 hc hl
  unfold spec_l1DrawNum.f; rw [e1, Option.bind_some]; dsimp only
  cases b with
  | true =>
    obtain ⟨x, i2, h2, e2, hx, hc2⟩ := spec_l1PickInt_dr c i1 h1 [1000000000000, -1000000000000, 999999999999, 1000000, -1000000, 1000001, 999999999999] (by decide) hc1 hl
    rw [if_pos rfl, e2, Option.bind_some]
    refine ⟨_, _, _, rfl, ?_, hc2⟩
    simp only [List.mem_cons, List.not_mem_nil, or_false] at hx
    dsimp only
    omega
  | false =>
    obtain ⟨x, i2, h2, e2, hx, hc2⟩ := spec_l1Below_dr c i1 h1 20 hc1 hl
    rw [if_neg (by simp), e2, Option.bind_some]
    refine ⟨_, _, _, rfl, ?_, hc2⟩
    dsimp only
    rw [w64 (by omega) (by omega)]; omega

theorem spec_l1DrawRaw_dr (c : List Int) (i h : Int) (hc : Cu c i) (hl : c.length ≤ 1048576) : ∃ x i' h', spec_l1DrawRaw.f c i h = some (x, i', h') ∧ (-9223372036854775808 ≤ x ∧ x ≤ 9223372036854775807) ∧ Cu c i' := by
  obtain ⟨b, i1, h1, e1, hc1⟩ := spec_l1Once_dr c i h 15 hc hl
  unfold spec_l1DrawRaw.f; rw [e1, Option.bind_some]; dsimp only
  cases b with
  | true =>
    obtain ⟨x, i2, h2, e2, hx, hc2⟩ := spec_l1PickInt_dr c i1 h1 [1000000000001, -1000000000001, 9223372036854775807, -9223372036854775808] (by decide) hc1 hl
    rw [if_pos rfl, e2, Option.bind_some]
    refine ⟨_, _, _, rfl, ?_, hc2⟩
    simp only [List.mem_cons, List.not_mem_nil, or_false] at hx
    dsimp only
    omega
  | false =>
    obtain ⟨x, i2, h2, e2, hx, hc2⟩ := spec_l1DrawNum_dr c i1 h1 hc1 hl
    rw [if_neg (by simp), e2, Option.bind_some]
    refine ⟨_, _, _, rfl, ?_, hc2⟩
    dsimp only
    omega

theorem spec_l3Fill_l0 (c s : List Int) (hl : c.length ≤ 1048576) (n : Nat) : ∀ (j : Nat) (d : List Int) (i h : Int), szOf s - j ≤ n → d.length = j → j ≤ 300 → (∀ x ∈ d, -1000000000000 ≤ x ∧ x ≤ 1000000000000) → Cu c i → ∃ e i' h', Ev (fun k => spec_l3Fill.l0 k s (j : Int) c i h s d) (s, e, i', h') ∧ (e.length ≤ 300 ∧ ∀ x ∈ e, -1000000000000 ≤ x ∧ x ≤ 1000000000000) ∧ Cu c i' := by
  have hz := szOf_ge s
  induction n with
  | zero =>
    intro j d i h hn hd hj hx hc
    refine ⟨d, i, h, Ev.step (fun k => by rw [spec_l3Fill.l0]) ?_, ⟨by omega, hx⟩, hc⟩
    refine Ev.bind (spec_SizeOf_ev s) ?_
    exact evNeg (by omega) (Ev.now _)
  | succ n ih =>
    intro j d i h hn hd hj hx hc
    by_cases hlt : (j : Int) < szOf s
    · obtain ⟨y, i1, h1, e1, hy, hc1⟩ := spec_l1DrawNum_dr c i h hc hl
      obtain ⟨e, i2, h2, ee, he, hc2⟩ := ih (j + 1) (d ++ [y]) i1 h1 (by omega) (by simp [hd]) (by omega) (fun x hx' => by
        rcases List.mem_append.1 hx' with h | h
        · exact hx x h
        · rw [List.mem_singleton] at h; omega) hc1
      refine ⟨e, i2, h2, Ev.step (fun k => by rw [spec_l3Fill.l0]) ?_, he, hc2⟩
      refine Ev.bind (spec_SizeOf_ev s) (evPos hlt (evBind0 e1 ?_))
      dsimp only
      rw [w64s j (by omega)]
      exact evPos (by omega) ee
    · refine ⟨d, i, h, Ev.step (fun k => by rw [spec_l3Fill.l0]) ?_, ⟨by omega, hx⟩, hc⟩
      exact Ev.bind (spec_SizeOf_ev s) (evNeg hlt (Ev.now _))
theorem spec_l3Fill_dr (c : List Int) (i h : Int) (s : List Int) (hs : s.length ≤ 100) (hc : Cu c i) (hl : c.length ≤ 1048576) : ∃ e i' h', Ev (fun k => spec_l3Fill.f k c i h s) (s, e, i', h') ∧ (e.length ≤ 300 ∧ ∀ x ∈ e, -1000000000000 ≤ x ∧ x ≤ 1000000000000) ∧ Cu c i' := by
  unfold spec_l3Fill.f
  have hz := szOf_ge s
  obtain ⟨e, i1, h1, ee, he, hc1⟩ := spec_l3Fill_l0 c s hl 300 0 [] i h (by omega) rfl (by omega) (by simp) hc
  exact ⟨e, i1, h1, evLet (evPos (by rw [List.length_nil]; omega) (by simpa using ee)), he, hc1⟩
theorem spec_l3DrawRight_dr (c : List Int) (i h : Int) (hc : Cu c i) (hl : c.length ≤ 1048576) : ∃ s d i' h', Ev (fun k => spec_l3DrawRight.f k c i h) (s, d, i', h') ∧ (s.length ≤ 3 ∧ d.length ≤ 300 ∧ ∀ x ∈ d, -1000000000000 ≤ x ∧ x ≤ 1000000000000) ∧ Cu c i' := by
  unfold spec_l3DrawRight.f
  obtain ⟨s, i1, h1, e1, ⟨hs, _⟩, hc1⟩ := spec_l2DrawRight_dr c i h hc hl
  obtain ⟨d, i2, h2, e2, hd, hc2⟩ := spec_l3Fill_dr c i1 h1 s (by omega) hc1 hl
  exact ⟨s, d, i2, h2, Ev.bind e1 (Ev.bind e2 (Ev.now _)), ⟨hs, hd⟩, hc2⟩
theorem spec_l3Draw_dr (c : List Int) (i h : Int) (hc : Cu c i) (hl : c.length ≤ 1048576) : ∃ s d i' h', Ev (fun k => spec_l3Draw.f k c i h) (s, d, i', h') ∧ (s.length ≤ 4 ∧ d.length ≤ 301 ∧ ∀ x ∈ d, -9223372036854775808 ≤ x ∧ x ≤ 9223372036854775807) ∧ Cu c i' := by
  unfold spec_l3Draw.f
  obtain ⟨s, d, i1, h1, e1, ⟨hs, hd, hx⟩, hc1⟩ := spec_l3DrawRight_dr c i h hc hl
  obtain ⟨x, i2, h2, e2, hx2, hc2⟩ := spec_l1Below_dr c i1 h1 20 hc1 hl
  have hw : ∀ x ∈ d, -9223372036854775808 ≤ x ∧ x ≤ 9223372036854775807 := fun x h => by have := hx x h; omega
  by_cases x0 : x = 0
  · refine ⟨s, d ++ [1], i2, h2, Ev.bind e1 (evBind0 e2 ?_), ⟨by omega, by simp; omega, fun y hy => ?_⟩, hc2⟩
    · dsimp only
      exact evPos x0 (evPos (by omega) (Ev.now _))
    · rcases List.mem_append.1 hy with h | h
      · exact hw y h
      · rw [List.mem_singleton] at h; omega
  by_cases x1 : x = 1
  · obtain ⟨s2, i3, h3, e3, ⟨hs2, _⟩, hc3⟩ := spec_l2Draw_dr c i2 h2 hc2 hl
    refine ⟨s2, d, i3, h3, Ev.bind e1 (evBind0 e2 ?_), ⟨hs2, by omega, hw⟩, hc3⟩
    dsimp only
    exact evNeg x0 (evPos x1 (Ev.bind e3 (Ev.now _)))
  by_cases x2 : x = 2
  · by_cases hd0 : (d.length : Int) > 0
    · obtain ⟨p, i3, h3, e3, hp, hc3⟩ := spec_l1Below_dr c i2 h2 (d.length : Int) hc2 hl
      obtain ⟨y, i4, h4, e4, hy, hc4⟩ := spec_l1DrawRaw_dr c i3 h3 hc3 hl
      refine ⟨s, d.set p.toNat y, i4, h4, Ev.bind e1 (evBind0 e2 ?_), ⟨by omega, by rw [List.length_set]; omega, fun z hz => ?_⟩, hc4⟩
      · dsimp only
        refine evNeg x0 (evNeg x1 (evPos x2 (evPos hd0 (evBind0 e3 ?_))))
        dsimp only
        refine evBind0 e4 ?_
        dsimp only
        exact evPos hp.1 (evPos (by omega) (Ev.now _))
      · rcases List.mem_or_eq_of_mem_set hz with h | h
        · exact hw z h
        · omega
    · refine ⟨s, d, i2, h2, Ev.bind e1 (evBind0 e2 ?_), ⟨by omega, by omega, hw⟩, hc2⟩
      dsimp only
      exact evNeg x0 (evNeg x1 (evPos x2 (evNeg hd0 (Ev.now _))))
  by_cases x3 : x = 3
  · obtain ⟨p, i3, h3, e3, hp, hc3⟩ := spec_l1Below_dr c i2 h2 2 hc2 hl
    have hq : wrap64 (300 + p) = 300 + p := w64 (by omega) (by omega)
    refine ⟨[300], List.replicate (300 + p).toNat 0, i3, h3, Ev.bind e1 (evBind0 e2 ?_), ⟨by simp, by rw [List.length_replicate]; omega, fun z hz => ?_⟩, hc3⟩
    · dsimp only
      refine evNeg x0 (evNeg x1 (evNeg x2 (evPos x3 (evBind0 e3 ?_))))
      dsimp only
      rw [hq]
      exact evPos (by omega) (evPos (by omega) (Ev.now _))
    · have := List.eq_of_mem_replicate hz; omega
  · refine ⟨s, d, i2, h2, Ev.bind e1 (evBind0 e2 ?_), ⟨by omega, by omega, hw⟩, hc2⟩
    dsimp only
    exact evNeg x0 (evNeg x1 (evNeg x2 (evNeg x3 (Ev.now _))))

theorem spec_DrawRows_dr (c : List Int) (hl : c.length ≤ 1048576) : ∃ s d, Ev (fun k => spec_DrawRows.f k c) (s, d) ∧ s.length ≤ 4 ∧ d.length ≤ 301 := by
  unfold spec_DrawRows.f
  obtain ⟨h0, e0⟩ := spec_l1New_dr c hl
  obtain ⟨s, d, i1, h1, e1, ⟨hs, hd, _⟩, _⟩ := spec_l3Draw_dr c 0 h0 (cu0 c) hl
  exact ⟨s, d, Ev.bind e0 (Ev.bind e1 (Ev.now _)), hs, hd⟩
theorem row_ok {n : Int} {t d : List Int} (h : arrayOk (n :: t) d = true) {i : Nat} (hi : i < n.toNat) : arrayOk (row t d (prod t).toNat i).f0 (row t d (prod t).toNat i).f1 = true := by
  obtain ⟨f1, f2, f3, f4, f5, f6⟩ := rows_facts h
  obtain ⟨_, h2, _⟩ := arrayOk_t h
  unfold arrayOk
  rw [Bool.and_eq_true, decide_eq_true_iff, row_len f2 hi]
  refine ⟨(f4 (by omega)).symm, List.all_eq_true.2 fun x hx => h2 x ?_⟩
  exact List.mem_of_mem_take (List.mem_of_mem_drop hx)
theorem FnRows_l1 (n : Int) (t d : List Int) (h : arrayOk (n :: t) d = true) (i : Nat) (hi : i < n.toNat) (hk : Ev (fun k => laws_FnRows.l0 k (rowsN n.toNat t d (prod t).toNat) (((i + 1) * (prod t).toNat : Nat) : Int) ((i + 1 : Nat) : Int) (n :: t) d) true) (c : Nat) : ∀ j : Nat, j + c = (prod t).toNat → Ev (fun k => laws_FnRows.l1 k (rowsN n.toNat t d (prod t).toNat) ((i * (prod t).toNat + j : Nat) : Int) (i : Int) (j : Int) (n :: t) d) true := by
  obtain ⟨f1, f2, f3, f4, f5, f6⟩ := rows_facts h
  obtain ⟨a1, a2, a3, a4, a5⟩ := arrayOk_t h
  have h1 : (i + 1) * (prod t).toNat ≤ n.toNat * (prod t).toNat := Nat.mul_le_mul_right _ hi
  have h2 : (i + 1) * (prod t).toNat = i * (prod t).toNat + (prod t).toNat := Nat.succ_mul i (prod t).toNat
  induction c with
  | zero =>
    intro j hj
    refine Ev.step (fun k => by rw [laws_FnRows.l1]) ?_
    refine evPos (by omega) (evPos (by rw [rowsN_length]; omega) (evNeg ?_ ?_))
    · rw [rowsN_rd _ _ _ _ _ hi, row_len f2 hi]; omega
    · rw [w64s i (by omega), show i * (prod t).toNat + j = (i + 1) * (prod t).toNat by omega]; exact hk
  | succ c ih =>
    intro j hj
    refine Ev.step (fun k => by rw [laws_FnRows.l1]) ?_
    refine evPos (by omega) (evPos (by rw [rowsN_length]; omega) (evPos ?_ ?_))
    · rw [rowsN_rd _ _ _ _ _ hi, row_len f2 hi]; omega
    refine Ev.bind (impl_IndexOf_ev (n :: t) _) (Ev.bind (impl_NumAt_ev (n :: t) d _ (by omega)) ?_)
    have hp : placeOf (n :: t) (indexOf (n :: t) ((i * (prod t).toNat + j : Nat) : Int)) = ((i * (prod t).toNat + j : Nat) : Int) := place_index (by omega)
    have e : numAt (n :: t) d (indexOf (n :: t) ((i * (prod t).toNat + j : Nat) : Int)) = (rd d ((i * (prod t).toNat + j : Nat) : Int), true) := by
      unfold numAt; rw [hp, if_pos ⟨h, by omega⟩]
    rw [e]
    refine evPos rfl (evPos (by omega) (evPos ?_ (evPos (by omega) (evPos (by omega) (evPos rfl ?_)))))
    · rw [rowsN_rd _ _ _ _ _ hi, row_get f2 hi (by omega)]
    rw [w64s _ (by omega), w64s j (by omega)]
    exact ih (j + 1) (by omega)
theorem FnRows_l0 (n : Int) (t d : List Int) (h : arrayOk (n :: t) d = true) (c : Nat) : ∀ i : Nat, i + c = n.toNat → Ev (fun k => laws_FnRows.l0 k (rowsN n.toNat t d (prod t).toNat) ((i * (prod t).toNat : Nat) : Int) (i : Int) (n :: t) d) true := by
  obtain ⟨f1, f2, f3, f4, f5, f6⟩ := rows_facts h
  induction c with
  | zero =>
    intro i hi
    refine Ev.step (fun k => by rw [laws_FnRows.l0]) ?_
    refine evNeg (by rw [rowsN_length]; omega) (evPos ?_ (evPos (by simp only [List.length_cons]; omega) (evSome ?_)))
    · rw [show i = n.toNat by omega, f2]
    · rw [rowsN_length]; show ((n.toNat : Int) == n) = true; rw [Int.toNat_of_nonneg f1]; simp
  | succ c ih =>
    intro i hi
    have hi2 : i < n.toNat := by omega
    refine Ev.step (fun k => by rw [laws_FnRows.l0]) ?_
    refine evPos (by rw [rowsN_length]; omega) (evPos (by omega) ?_)
    rw [rowsN_rd _ _ _ _ _ hi2]
    refine Ev.bind (impl_ArrayOk_ev _ _ (by rw [row_len f2 hi2]; have := Nat.mul_le_mul_right (prod t).toNat (show 1 ≤ n.toNat by omega); omega)) (evPos (row_ok h hi2) ?_)
    have e : (((row t d (prod t).toNat i).f0.length : Int) != wrap64 (((n :: t).length : Int) - 1)) = false := by
      rw [w64 (by simp only [List.length_cons]; omega) (by simp only [List.length_cons]; omega)]
      show ((t.length : Int) != ((n :: t).length : Int) - 1) = false
      rw [bne_eq_false_iff_eq]; simp only [List.length_cons]; omega
    rw [e]
    refine Ev.step (fun k => by rw [laws_FnRows.j1]) ?_
    refine evNeg (by simp) ?_
    exact FnRows_l1 n t d h i hi2 (ih (i + 1) (by omega)) (prod t).toNat 0 (by omega)
theorem FnRows : laws_FnRows.Pure := by
  intro l _ _ _
  refine Ev.rounds (g := fun k => laws_FnRows.f k l) ?_
  unfold laws_FnRows.f
  refine evBind0 (laws_big_eq l) ?_
  by_cases hb : (l.length : Int) > 1048576
  · exact evPos (decide_eq_true hb) (Ev.now _)
  refine evNeg (by simpa using hb) ?_
  have hl : l.length ≤ 1048576 := by omega
  obtain ⟨s, d, e, hs, hd⟩ := spec_DrawRows_dr l hl
  refine Ev.bind e (Ev.bind (impl_Rows_ev s d (by omega)) (Ev.bind (spec_Rows_ev s d (by omega)) (evPos rfl (Ev.bind (spec_ArrayOk_ev s d (by omega)) ?_))))
  dsimp only
  by_cases h : arrayOk s d = true
  · refine evPos h ?_
    cases s with
    | nil => exact evPos rfl (evPos rfl (Ev.bind (impl_ArrayOk_ev [] d (by omega)) (evSome h)))
    | cons n t =>
      refine evNeg (by simp only [List.length_cons]; omega) ?_
      have er : rows (n :: t) d = rowsN n.toNat t d (prod t).toNat := by rw [rows_cons, if_pos h]
      rw [er]
      have := FnRows_l0 n t d h n.toNat 0 (by omega)
      simpa using this
  · have er : rows s d = [] := by unfold rows; cases s with
      | nil => rfl
      | cons n t => exact if_neg h
    rw [er]
    refine evNeg h (evPos rfl (Ev.bind (impl_ArraySame_ev s d s d (by omega) (by omega) (by omega)) (evSome ?_)))
    unfold arraySame; simp [h]

end Go.Proofs.Ytcnbajdnlkcjjaa.Pure
