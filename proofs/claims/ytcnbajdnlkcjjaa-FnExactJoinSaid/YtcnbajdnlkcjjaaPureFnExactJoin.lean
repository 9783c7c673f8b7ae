/- The law FnExactJoin answers true for any two arrays: the program's Join is the reference's, and what it hands back is its own memory. Conditions: those of the row's own reading alone. -/
import Derived.Test.YtcnbajdnlkcjjaaPFnExactJoinx
namespace Go.Proofs.Ytcnbajdnlkcjjaa.Pure
open Go.RowKit Go.Proofs.Ytcnbajdnlkcjjaa.PFnExactJoin Go.Proofs.YtcnbajdnlkcjjaaW.PrintWords Go.Proofs.YtcnbajdnlkcjjaaW.PrintLast Go.Proofs.YtcnbajdnlkcjjaaW.PrintMore
set_option linter.unusedVariables false
set_option linter.unusedSimpArgs false

section
variable {α β : Type}
theorem evPos {c : Prop} [Decidable c] {g h : Nat → Option α} {r : α} (hc : c) (e : Ev g r) : Ev (fun k => if c then g k else h k) r := by
  simpa only [if_pos hc] using e
theorem evNeg {c : Prop} [Decidable c] {g h : Nat → Option α} {r : α} (hc : ¬ c) (e : Ev h r) : Ev (fun k => if c then g k else h k) r := by
  simpa only [if_neg hc] using e
theorem evBind0 {o : Option α} {f : Nat → α → Option β} {a : α} {r : β} (h : o = some a) (k : Ev (fun n => f n a) r) : Ev (fun n => o.bind (f n)) r := by
  subst h; simpa only [Option.bind_some] using k
theorem evLet {a : α} {f : Nat → α → Option β} {r : β} (k : Ev (fun n => f n a) r) : Ev (fun n => (some a).bind (f n)) r := by
  simpa only [Option.bind_some] using k
theorem evEq {g : Nat → Option α} {r r' : α} (h : Ev g r) (e : r = r') : Ev g r' := e ▸ h
theorem evSome {a r : α} (e : a = r) : Ev (fun _ => some a) r := e ▸ Ev.now a
end
theorem w64 {x : Int} (h : -9223372036854775808 ≤ x) (h' : x ≤ 9223372036854775807) : wrap64 x = x := by unfold wrap64; omega
theorem w64s (i : Nat) (h : i < 4611686018427387904) : wrap64 ((i : Int) + 1) = ((i + 1 : Nat) : Int) := by rw [w64] <;> omega
theorem rdn (l : List Int) (i : Nat) (h : i < l.length) : rd l (i : Int) = l[i] := by
  simp only [rd, Int.toNat_natCast, List.getD_eq_getElem?_getD, List.getElem?_eq_getElem h, Option.getD_some]
/-- The product of a list. -/
def prod : List Int → Int
  | [] => 1
  | x :: l => x * prod l
/-- May these stand in a shape? -/
def inR (l : List Int) : Bool := l.all fun n => decide (0 ≤ n ∧ n ≤ 300)
/-- How many numbers an array of a shape has; -1 where the shape isn't right. -/
def szOf (l : List Int) : Int := if 3 < l.length then -1 else if inR l = true then (if prod l > 300 then -1 else prod l) else -1
theorem mul300 {a b : Int} {m n : Int} (h0 : 0 ≤ a) (h1 : a ≤ m) (h2 : 0 ≤ b) (h3 : b ≤ n) : 0 ≤ a * b ∧ a * b ≤ m * n :=
  ⟨Int.mul_nonneg h0 h2, Int.mul_le_mul h1 h3 h2 (Int.le_trans h0 h1)⟩
theorem inR_cons {a : Int} {l : List Int} : inR (a :: l) = true ↔ (0 ≤ a ∧ a ≤ 300) ∧ inR l = true := by
  simp [inR]
/-- A part of a shape's product stays small. -/
def pw : Nat → Int
  | 0 => 1
  | n + 1 => 300 * pw n
theorem prod_le : ∀ (l : List Int), inR l = true → 0 ≤ prod l ∧ prod l ≤ pw l.length
  | [], _ => by simp [prod, pw]
  | a :: l, h => by
    obtain ⟨⟨h0, h1⟩, h2⟩ := inR_cons.1 h
    obtain ⟨h3, h4⟩ := prod_le l h2
    exact mul300 h0 h1 h3 h4
theorem prod_append : ∀ (a b : List Int), prod (a ++ b) = prod a * prod b
  | [], b => by simp [prod]
  | x :: a, b => by simp [prod, prod_append a b, Int.mul_assoc]
theorem pw_le {n : Nat} (h : n ≤ 3) : pw n ≤ 27000000 := by
  match n, h with
  | 0, _ => decide
  | 1, _ => decide
  | 2, _ => decide
  | 3, _ => decide
theorem inR_take {l : List Int} (i : Nat) (h : inR l = true) : inR (l.take i) = true := by
  simp only [inR, List.all_eq_true] at h ⊢
  exact fun x hx => h x (List.mem_of_mem_take hx)
theorem prod_take_succ (l : List Int) (i : Nat) (h : i < l.length) : prod (l.take (i + 1)) = prod (l.take i) * l[i] := by
  rw [List.take_succ_eq_append_getElem h, prod_append]; simp [prod]
/-- The product so far is small. -/
theorem prod_take_le (l : List Int) (i : Nat) (hl : ¬ 3 < l.length) (h : inR (l.take i) = true) : 0 ≤ prod (l.take i) ∧ prod (l.take i) ≤ 27000000 := by
  obtain ⟨h0, h1⟩ := prod_le _ h
  have h2 : (l.take i).length ≤ 3 := by rw [List.length_take]; omega
  exact ⟨h0, Int.le_trans h1 (pw_le h2)⟩
theorem inR_take_succ (l : List Int) (i : Nat) (h : i < l.length) : inR (l.take (i + 1)) = true ↔ inR (l.take i) = true ∧ (0 ≤ l[i] ∧ l[i] ≤ 300) := by
  unfold inR
  rw [List.take_succ_eq_append_getElem h, List.all_append, Bool.and_eq_true]; simp
theorem inR_not {l : List Int} (i : Nat) (h : i < l.length) (hx : ¬ (0 ≤ l[i] ∧ l[i] ≤ 300)) : inR l = false := by
  rw [← Bool.not_eq_true]
  intro hh
  simp only [inR, List.all_eq_true] at hh
  exact hx (of_decide_eq_true (hh _ (List.getElem_mem h)))
theorem szOf_ge (l : List Int) : -1 ≤ szOf l ∧ szOf l ≤ 300 := by
  unfold szOf
  by_cases h1 : 3 < l.length
  · rw [if_pos h1]; omega
  · rw [if_neg h1]
    by_cases h2 : inR l = true
    · rw [if_pos h2]
      have := (prod_le l h2).1
      by_cases h3 : prod l > 300
      · rw [if_pos h3]; omega
      · rw [if_neg h3]; omega
    · rw [if_neg h2]; omega

/-- A right number. -/
def okN (x : Int) : Bool := decide (-1000000000000 ≤ x ∧ x ≤ 1000000000000)
theorem szOf_nonneg {l : List Int} (h : szOf l ≥ 0) : ¬ 3 < l.length ∧ inR l = true ∧ prod l ≤ 300 ∧ szOf l = prod l := by
  unfold szOf at h ⊢
  by_cases h1 : 3 < l.length
  · rw [if_pos h1] at h; omega
  · rw [if_neg h1] at h ⊢
    by_cases h2 : inR l = true
    · rw [if_pos h2] at h ⊢
      by_cases h3 : prod l > 300
      · rw [if_pos h3] at h; omega
      · rw [if_neg h3] at h ⊢; exact ⟨h1, h2, by omega, rfl⟩
    · rw [if_neg h2] at h; omega
def arrayOk (s d : List Int) : Bool := decide ((d.length : Int) = szOf s) && d.all okN
theorem arrayOk_t {s d : List Int} (h : arrayOk s d = true) : (d.length : Int) = szOf s ∧ (∀ x ∈ d, okN x = true) ∧ d.length ≤ 300 ∧ s.length ≤ 3 ∧ szOf s ≥ 0 := by
  unfold arrayOk at h
  rw [Bool.and_eq_true, decide_eq_true_iff, List.all_eq_true] at h
  have h1 := szOf_ge s
  have h2 : szOf s ≥ 0 := by omega
  exact ⟨h.1, h.2, by omega, by have := (szOf_nonneg h2).1; omega, h2⟩

def row (t d : List Int) (M i : Nat) : S26 := ⟨t, (d.take ((i + 1) * M)).drop (i * M)⟩
def rowsN (N : Nat) (t d : List Int) (M : Nat) : List S26 := (List.range N).map (row t d M)
theorem rowsN_length (N : Nat) (t d : List Int) (M : Nat) : (rowsN N t d M).length = N := by unfold rowsN; simp
def rows (s d : List Int) : List S26 := match s with
  | [] => []
  | n :: t => if arrayOk (n :: t) d = true then rowsN n.toNat t d (prod t).toNat else []
theorem rows_cons (n : Int) (t d : List Int) : rows (n :: t) d = if arrayOk (n :: t) d = true then rowsN n.toNat t d (prod t).toNat else [] := rfl
theorem wmul (a b : Nat) (h : a * b ≤ 1048576) : wrap64 ((a : Int) * (b : Int)) = ((a * b : Nat) : Int) := by
  have e : ((a * b : Nat) : Int) = (a : Int) * (b : Int) := Int.natCast_mul a b
  rw [w64] <;> omega
theorem rows_facts {n : Int} {t d : List Int} (h : arrayOk (n :: t) d = true) : 0 ≤ n ∧ n.toNat * (prod t).toNat = d.length ∧ n.toNat ≤ 300 ∧ (0 < n.toNat → szOf t = ((prod t).toNat : Int)) ∧ d.length ≤ 300 ∧ t.length ≤ 2 := by
  obtain ⟨h1, h2, h3, h4, h5⟩ := arrayOk_t h
  obtain ⟨g1, g2, g3, g4⟩ := szOf_nonneg h5
  obtain ⟨⟨a1, a2⟩, a3⟩ := inR_cons.1 g2
  have p0 := (prod_le t a3).1
  have ep : prod (n :: t) = n * prod t := rfl
  have hp : ((n.toNat * (prod t).toNat : Nat) : Int) = n * prod t := by rw [Int.natCast_mul, Int.toNat_of_nonneg a1, Int.toNat_of_nonneg p0]
  simp only [List.length_cons] at h4
  refine ⟨a1, by omega, by omega, fun hn => ?_, h3, by omega⟩
  have hle : prod t ≤ n * prod t := by
    have := Int.mul_le_mul_of_nonneg_right (show 1 ≤ n by omega) p0; rwa [Int.one_mul] at this
  unfold szOf
  rw [if_neg (by omega), if_pos a3, if_neg (by omega)]; omega
theorem row_len {N M i : Nat} {t d : List Int} (hd : N * M = d.length) (h : i < N) : (row t d M i).f1.length = M := by
  have h1 : (i + 1) * M ≤ N * M := Nat.mul_le_mul_right _ h
  have h2 : (i + 1) * M = i * M + M := Nat.succ_mul i M
  show ((d.take ((i + 1) * M)).drop (i * M)).length = M
  rw [List.length_drop, List.length_take, Nat.min_eq_left (by omega)]; omega
def flat (rs : List S26) : List Int := (rs.map (fun r => r.f1)).flatten
theorem flat_append (a b : List S26) : flat (a ++ b) = flat a ++ flat b := by unfold flat; simp
theorem flat_one (r : S26) : flat [r] = r.f1 := by unfold flat; simp
theorem flat_len (M : Nat) : ∀ (rs : List S26), (∀ r ∈ rs, r.f1.length = M) → (flat rs).length = rs.length * M
  | [], _ => by simp [flat]
  | r :: rs, h => by
    have ih := flat_len M rs (fun x hx => h x (List.mem_cons_of_mem _ hx))
    have h1 := h r (List.mem_cons_self ..)
    have e : flat (r :: rs) = r.f1 ++ flat rs := by unfold flat; simp
    rw [e, List.length_append, ih, h1, List.length_cons, Nat.succ_mul, Nat.add_comm]
theorem flat_take (rs : List S26) (i : Nat) (h : i < rs.length) : flat (rs.take (i + 1)) = flat (rs.take i) ++ rs[i].f1 := by
  rw [List.take_add_one, List.getElem?_eq_getElem h, flat_append, Option.toList_some, flat_one]
theorem rdT (rs : List S26) (i : Nat) (h : i < rs.length) : rd_T26 rs (i : Int) = rs[i] := by
  unfold rd_T26
  rw [Int.toNat_natCast, List.getD_eq_getElem?_getD, List.getElem?_eq_getElem h]; rfl
def vec (l : List Int) : List Int × List Int := ([(l.length : Int)], l)

/-- An array with a row at least: a vector of its numbers where it is of rank nought. -/
def asRows (s d : List Int) : List Int × List Int := if s.length = 0 then vec d else (s, d)
theorem asRows_ok {s d : List Int} (h : arrayOk s d = true) : ∃ m t, asRows s d = (m :: t, d) ∧ arrayOk (m :: t) d = true := by
  cases s with
  | cons m t => exact ⟨m, t, if_neg (by simp), h⟩
  | nil =>
    obtain ⟨h1, h2, _⟩ := arrayOk_t h
    have z0 : szOf [] = 1 := by decide
    have e : (d.length : Int) = 1 := by omega
    refine ⟨(d.length : Int), [], if_pos rfl, ?_⟩
    unfold arrayOk
    rw [Bool.and_eq_true, decide_eq_true_iff, e]
    exact ⟨by decide, List.all_eq_true.2 h2⟩
theorem flat_rows_i (t d : List Int) (M : Nat) : ∀ i : Nat, flat ((List.range i).map (row t d M)) = d.take (i * M)
  | 0 => by simp [flat]
  | i + 1 => by
    have h : i * M ≤ (i + 1) * M := Nat.mul_le_mul_right _ (by omega)
    have e := List.take_append_drop (i * M) (d.take ((i + 1) * M))
    rw [List.take_take, Nat.min_eq_left h] at e
    rw [List.range_succ, List.map_append, flat_append, flat_rows_i t d M i, List.map_cons, List.map_nil, flat_one]
    exact e
theorem flat_rows {m : Int} {t d : List Int} (h : arrayOk (m :: t) d = true) : flat (rowsN m.toNat t d (prod t).toNat) = d := by
  obtain ⟨f1, f2, f3, f4, f5, f6⟩ := rows_facts h
  unfold rowsN
  rw [flat_rows_i, f2, List.take_of_length_le (Nat.le_refl _)]
theorem rows_len {m : Int} {t d : List Int} (h : arrayOk (m :: t) d = true) : ∀ r ∈ rowsN m.toNat t d (prod t).toNat, r.f1.length = (prod t).toNat := by
  obtain ⟨f1, f2, f3, f4, f5, f6⟩ := rows_facts h
  intro r hr
  unfold rowsN at hr
  rw [List.mem_map] at hr
  obtain ⟨i, hi, rfl⟩ := hr
  rw [List.mem_range] at hi
  exact row_len f2 hi
def joinS (s b s' d : List Int) : List Int × List Int × Int := match s, s' with
  | m :: t, m' :: t' => if t.length = t'.length then (if t = t' then (if arrayOk ((m + m') :: t) (b ++ d) = true then ((m + m') :: t, b ++ d, 0) else ([], [], 6)) else ([], [], 3)) else ([], [], 4)
  | _, _ => ([], [], 4)
def joinA (a b c d : List Int) : List Int × List Int × Int :=
  if arrayOk a b = true ∧ arrayOk c d = true then joinS (asRows a b).1 (asRows a b).2 (asRows c d).1 (asRows c d).2 else ([], [], 1)
theorem joinA_len (a b c d : List Int) : (joinA a b c d).1.length ≤ 1048576 ∧ (joinA a b c d).2.1.length ≤ 1048576 := by
  unfold joinA
  by_cases h : arrayOk a b = true ∧ arrayOk c d = true
  · rw [if_pos h]
    obtain ⟨m, t, e, hk⟩ := asRows_ok h.1
    obtain ⟨m', t', e', hk'⟩ := asRows_ok h.2
    obtain ⟨f1, f2, f3, f4, f5, f6⟩ := rows_facts hk
    obtain ⟨g1, g2, g3, g4, g5, g6⟩ := rows_facts hk'
    rw [e, e']
    unfold joinS
    dsimp only
    repeat' split
    all_goals first
      | exact ⟨by simp only [List.length_cons]; omega, by dsimp only; rw [List.length_append]; omega⟩
      | simp
  · rw [if_neg h]; simp

theorem impl_vector_eq (l : List Int) (hl : l.length ≤ 1048576) : impl_vector.f l = some (vec l) := by
  unfold impl_vector.f
  rw [if_pos (by rw [List.length_nil]; omega)]; rfl

theorem impl_asRows_eq (s d : List Int) (hd : d.length ≤ 1048576) : impl_asRows.f s d = some (asRows s d) := by
  unfold impl_asRows.f asRows
  by_cases h : s.length = 0
  · rw [if_pos (by omega), if_pos h, impl_vector_eq d hd]; rfl
  · rw [if_neg (by omega), if_neg h]

theorem impl_within_eq (a b c : Int) : impl_within.f a b c = some (decide (b ≤ a ∧ a ≤ c)) := by
  unfold impl_within.f
  by_cases h : a ≥ b
  · rw [if_pos h]; congr 1; rw [Bool.eq_iff_iff, decide_eq_true_iff, decide_eq_true_iff]; omega
  · rw [if_neg h]; congr 1; symm; rw [decide_eq_false_iff_not]; omega

theorem impl_SizeOf_l0 (l : List Int) (hl : ¬ 3 < l.length) (d : Nat) : ∀ (i : Nat), i + d = l.length → inR (l.take i) = true → Ev (fun k => impl_SizeOf.l0 k (prod (l.take i)) l (l.length : Int) (i : Int)) (if inR l = true then (if prod l > 300 then -1 else prod l) else -1) := by
  induction d with
  | zero =>
    intro i hi hr
    have e : l.take i = l := List.take_of_length_le (by omega)
    rw [e] at hr ⊢
    rw [if_pos hr]
    refine Ev.step (f := fun _ => some (if prod l > 300 then -1 else prod l)) (fun k => ?_) (Ev.now _)
    simp only [impl_SizeOf.l0]; rw [if_neg (by omega)]
    by_cases h : prod l > 300
    · rw [if_pos h, if_pos h]
    · rw [if_neg h, if_neg h]
  | succ d ih =>
    intro i hi hr
    have hlt : i < l.length := by omega
    by_cases hx : 0 ≤ l[i] ∧ l[i] ≤ 300
    · have hr' := (inR_take_succ l i hlt).2 ⟨hr, hx⟩
      refine Ev.step (f := fun k => impl_SizeOf.l0 k (prod (l.take (i + 1))) l (l.length : Int) ((i + 1 : Nat) : Int)) (fun k => ?_) (ih (i + 1) (by omega) hr')
      simp only [impl_SizeOf.l0]
      rw [if_pos (by omega), if_pos (by omega), if_pos (by omega), impl_within_eq, rdn l i hlt, decide_eq_true hx]
      simp only [Option.bind_some, if_true]
      have hp := prod_take_le l (i + 1) hl hr'
      rw [w64s i (by omega), ← prod_take_succ l i hlt, w64 (by omega) (by omega)]
    · rw [if_neg (by rw [inR_not i hlt hx]; simp)]
      refine Ev.step (f := fun _ => some (-1)) (fun k => ?_) (Ev.now _)
      simp only [impl_SizeOf.l0]
      rw [if_pos (by omega), if_pos (by omega), if_pos (by omega), impl_within_eq, rdn l i hlt, decide_eq_false hx]
      rfl
theorem impl_SizeOf_ev (l : List Int) : Ev (fun k => impl_SizeOf.f k l) (szOf l) := by
  unfold impl_SizeOf.f szOf
  by_cases h : 3 < l.length
  · rw [if_pos h]; exact evPos (by omega) (Ev.now _)
  · rw [if_neg h]
    refine evNeg (by omega) ?_
    have := impl_SizeOf_l0 l h l.length 0 (by omega) (by simp [inR])
    simpa only [List.take_zero, prod, Int.ofNat_zero, Int.natCast_zero] using this

theorem impl_NumOk_eq (a : Int) : impl_NumOk.f a = some (okN a) := by
  unfold impl_NumOk.f; rw [impl_within_eq]; rfl

def p_ArrayOk1 (x : Int) : Bool := !okN x
theorem lit_ArrayOk1_eq (x : Int) : impl_ArrayOk_lit1.f x = some (p_ArrayOk1 x) := by
  unfold impl_ArrayOk_lit1.f; rw [impl_NumOk_eq]; rfl

theorem slices_IndexFunc_ArrayOk1_l0 (l : List Int) (hl : l.length ≤ 1048576) (d : Nat) : ∀ (i : Nat), i + d = l.length → (l.take i).all (fun x => !p_ArrayOk1 x) = true → ∃ r, Ev (fun k => slices_IndexFunc_ArrayOk1.l0 k l (l.length : Int) (i : Int)) r ∧ decide (r ≥ 0) = l.any p_ArrayOk1 := by
  induction d with
  | zero =>
    intro i hi ht
    refine ⟨-1, Ev.step (f := fun _ => some (-1)) (fun k => ?_) (Ev.now _), ?_⟩
    · simp only [slices_IndexFunc_ArrayOk1.l0]; rw [if_neg (by omega)]
    · have e : l.take i = l := List.take_of_length_le (by omega)
      rw [e] at ht
      symm; rw [show decide ((-1 : Int) ≥ 0) = false by decide, List.any_eq_false]
      intro x hx
      have := List.all_eq_true.1 ht x hx
      simpa using this
  | succ d ih =>
    intro i hi ht
    have hlt : i < l.length := by omega
    by_cases hx : p_ArrayOk1 l[i] = true
    · refine ⟨(i : Int), Ev.step (f := fun _ => some (i : Int)) (fun k => ?_) (Ev.now _), ?_⟩
      · simp only [slices_IndexFunc_ArrayOk1.l0]
        rw [if_pos (by omega), if_pos (by omega), if_pos (by omega), lit_ArrayOk1_eq, rdn l i hlt]; simp only [Option.bind_some]; rw [if_pos hx]
      · rw [decide_eq_true (by omega)]; symm; rw [List.any_eq_true]; exact ⟨_, List.getElem_mem hlt, hx⟩
    · obtain ⟨r, hr, h2⟩ := ih (i + 1) (by omega) (by rw [List.take_succ_eq_append_getElem hlt, List.all_append, ht]; simp [hx])
      refine ⟨r, Ev.step (f := fun k => slices_IndexFunc_ArrayOk1.l0 k l (l.length : Int) ((i + 1 : Nat) : Int)) (fun k => ?_) hr, h2⟩
      simp only [slices_IndexFunc_ArrayOk1.l0]
      rw [if_pos (by omega), if_pos (by omega), if_pos (by omega), lit_ArrayOk1_eq, rdn l i hlt]; simp only [Option.bind_some]; rw [if_neg hx, w64s i (by omega)]
theorem slices_ContainsFunc_ArrayOk1_ev (l : List Int) (hl : l.length ≤ 1048576) : Ev (fun k => slices_ContainsFunc_ArrayOk1.f k l) (l.any p_ArrayOk1) := by
  unfold slices_ContainsFunc_ArrayOk1.f slices_IndexFunc_ArrayOk1.f
  obtain ⟨r, hr, h⟩ := slices_IndexFunc_ArrayOk1_l0 l hl l.length 0 (by omega) (by simp)
  exact Ev.bind hr (evSome h)

theorem all_okN (d : List Int) : (!d.any p_ArrayOk1) = d.all okN := by
  rw [List.not_any_eq_all_not]; congr 1; funext x; simp [p_ArrayOk1]
theorem impl_ArrayOk_ev (s d : List Int) (hd : d.length ≤ 1048576) : Ev (fun k => impl_ArrayOk.f k s d) (arrayOk s d) := by
  unfold impl_ArrayOk.f arrayOk
  refine Ev.bind (impl_SizeOf_ev s) ?_
  by_cases h : (d.length : Int) = szOf s
  · exact evPos h (Ev.bind (slices_ContainsFunc_ArrayOk1_ev d hd) (evSome (by rw [all_okN, decide_eq_true h]; rfl)))
  · exact evNeg h (evSome (by rw [decide_eq_false h]; rfl))

theorem impl_copyArray_eq (s d : List Int) (hs : s.length ≤ 1048576) (hd : d.length ≤ 1048576) : impl_copyArray.f s d = some (s, d) := by
  unfold impl_copyArray.f
  rw [if_pos (by rw [List.length_nil]; omega), if_pos (by rw [List.length_nil]; omega)]; rfl

theorem impl_Rows_l0 (n : Int) (t d : List Int) (N M : Nat) (hn : n = (N : Int)) (hd : N * M = d.length) (hN : N ≤ 300) (hz : 0 < N → szOf t = (M : Int)) (h3 : d.length ≤ 300) (ht : t.length ≤ 2) (c : Nat) : ∀ (i : Nat) (o : List S26), i + c = N → o = (List.range i).map (row t d M) → Ev (fun k => impl_Rows.l0 k (szOf t) o (i : Int) (n :: t) d) (rowsN N t d M) := by
  induction c with
  | zero =>
    intro i o hi ho
    refine Ev.step (fun k => by rw [impl_Rows.l0]) ?_
    refine evPos (by simp only [List.length_cons]; omega) (evNeg ?_ (evSome ?_))
    · show ¬ (i : Int) < n; omega
    · rw [ho, show i = N by omega]; rfl
  | succ c ih =>
    intro i o hi ho
    have h1 : (i + 1) * M ≤ N * M := Nat.mul_le_mul_right _ (by omega)
    have h2 : (i + 1) * M = i * M + M := Nat.succ_mul i M
    have hol : o.length = i := by rw [ho]; simp
    refine Ev.step (fun k => by rw [impl_Rows.l0]) ?_
    refine evPos (by simp only [List.length_cons]; omega) (evPos ?_ (evPos (by simp only [List.length_cons]; omega) ?_))
    · show (i : Int) < n; omega
    rw [hz (by omega), w64s i (by omega), wmul i M (by omega), wmul (i + 1) M (by omega), Int.toNat_natCast, Int.toNat_natCast]
    refine evPos (by omega) (evPos (by omega) (evPos (by omega) (evBind0 (impl_copyArray_eq _ _ (by simp; omega) (by simp; omega)) ?_)))
    refine evPos (by omega) ?_
    rw [← hz (by omega)]
    exact ih (i + 1) _ (by omega) (by rw [ho, List.range_succ, List.map_append]; rfl)
theorem impl_Rows_ev (s d : List Int) (hd : d.length ≤ 1048576) : Ev (fun k => impl_Rows.f k s d) (rows s d) := by
  unfold impl_Rows.f
  refine Ev.bind (impl_ArrayOk_ev s d hd) ?_
  have hbad : Ev (fun k => impl_Rows.j0 k true s d) ([] : List S26) := Ev.step (fun k => by rw [impl_Rows.j0]) (evPos rfl (Ev.now _))
  cases s with
  | nil =>
    by_cases h : arrayOk [] d = true
    · exact evPos h hbad
    · exact evNeg h hbad
  | cons n t =>
    rw [rows_cons]
    by_cases h : arrayOk (n :: t) d = true
    · obtain ⟨f1, f2, f3, f4, f5, f6⟩ := rows_facts h
      rw [if_pos h]
      have e : (((n :: t).length : Int) == 0) = false := by
        rw [beq_eq_false_iff_ne]; simp only [List.length_cons]; omega
      refine evPos h ?_
      rw [e]
      refine Ev.step (fun k => by rw [impl_Rows.j0]) ?_
      refine evNeg (by simp) (evPos (by simp only [List.length_cons]; omega) (Ev.bind (impl_SizeOf_ev t) ?_))
      exact impl_Rows_l0 n t d n.toNat (prod t).toNat (Int.toNat_of_nonneg f1).symm f2 f3 f4 f5 f6 n.toNat 0 [] (by omega) rfl
    · rw [if_neg h]; exact evNeg h hbad

theorem impl_joined_l0 (rs : List S26) (s : List Int) (M : Nat) (hM : ∀ r ∈ rs, r.f1.length = M) (hl : rs.length * M ≤ 1048576) (h3 : rs.length ≤ 1048576) (n : Nat) : ∀ (i : Nat), i + n = rs.length → Ev (fun k => impl_joined.l0 k rs (rs.length : Int) (i : Int) s (flat (rs.take i))) (if arrayOk s (flat rs) = true then (s, flat rs, 0) else ([], [], 6)) := by
  have hf : (flat rs).length ≤ 1048576 := by rw [flat_len M rs hM]; omega
  induction n with
  | zero =>
    intro i hi
    rw [List.take_of_length_le (by omega)]
    refine Ev.step (fun k => by rw [impl_joined.l0]) ?_
    refine evNeg (by omega) (Ev.bind (impl_ArrayOk_ev s (flat rs) hf) ?_)
    by_cases h : arrayOk s (flat rs) = true
    · exact evEq (evPos h (Ev.now _)) (if_pos h).symm
    · exact evEq (evNeg h (Ev.now _)) (if_neg h).symm
  | succ n ih =>
    intro i hi
    have hlt : i < rs.length := by omega
    have ih' := ih (i + 1) (by omega)
    rw [flat_take rs i hlt] at ih'
    have h1 := flat_len M (rs.take i) (fun r hr => hM r (List.mem_of_mem_take hr))
    rw [List.length_take, Nat.min_eq_left (by omega)] at h1
    have h2 : i * M ≤ rs.length * M := Nat.mul_le_mul_right _ (by omega)
    have h4 : M ≤ rs.length * M := Nat.le_mul_of_pos_left _ (by omega)
    have h5 := hM rs[i] (List.getElem_mem hlt)
    refine Ev.step (fun k => by rw [impl_joined.l0]) ?_
    refine evPos (by omega) (evPos (by omega) (evPos (by omega) ?_))
    rw [rdT rs i hlt, w64s i (by omega)]
    exact evPos (by omega) ih'
theorem impl_joined_evG (rs : List S26) (t : List Int) (M : Nat) (hM : ∀ r ∈ rs, r.f1.length = M) (hl : rs.length * M ≤ 1048576) (h3 : rs.length ≤ 1048576) (ht : t.length ≤ 300) : Ev (fun k => impl_joined.f k rs t) (if arrayOk ((rs.length : Int) :: t) (flat rs) = true then ((rs.length : Int) :: t, flat rs, 0) else ([], [], 6)) := by
  unfold impl_joined.f
  refine evLet ?_
  refine evPos (by simp only [List.length_cons, List.length_nil]; omega) ?_
  exact impl_joined_l0 rs ((rs.length : Int) :: t) M hM hl h3 rs.length 0 (by omega)
theorem slices_Equal_l0 (l m : List Int) (hl : l.length ≤ 35184372088832) (hm : l.length = m.length) (d : Nat) : ∀ (i : Nat), i + d = l.length → Ev (fun k => slices_Equal_int_int.l0 k l m (l.length : Int) (i : Int)) (decide (l.drop i = m.drop i)) := by
  induction d with
  | zero =>
    intro i hi
    refine Ev.step (f := fun _ => some (decide (l.drop i = m.drop i))) (fun k => ?_) (Ev.now _)
    simp only [slices_Equal_int_int.l0]
    rw [if_neg (by omega), List.drop_of_length_le (by omega), List.drop_of_length_le (by omega)]; simp
  | succ d ih =>
    intro i hi
    have hlt : i < l.length := by omega
    have hlt' : i < m.length := by omega
    have e1 := List.drop_eq_getElem_cons hlt
    have e2 := List.drop_eq_getElem_cons hlt'
    by_cases hx : l[i] = m[i]
    · refine Ev.step (f := fun k => slices_Equal_int_int.l0 k l m (l.length : Int) ((i + 1 : Nat) : Int)) (fun k => ?_) (evEq (ih (i + 1) (by omega)) ?_)
      · simp only [slices_Equal_int_int.l0]
        rw [if_pos (by omega), if_pos (by omega), if_pos (by omega), if_pos (by omega), rdn l i hlt, rdn m i hlt', if_pos hx, w64s i (by omega)]
      · rw [e1, e2, hx]; simp only [List.cons.injEq, true_and]
    · refine Ev.step (f := fun _ => some false) (fun k => ?_) (evSome ?_)
      · simp only [slices_Equal_int_int.l0]
        rw [if_pos (by omega), if_pos (by omega), if_pos (by omega), if_pos (by omega), rdn l i hlt, rdn m i hlt', if_neg hx]
      · rw [e1, e2]; symm; rw [decide_eq_false_iff_not]; intro h; exact hx (List.cons.inj h).1
theorem slices_Equal_ev (l m : List Int) (hl : l.length ≤ 35184372088832) : Ev (fun k => slices_Equal_int_int.f k l m) (decide (l = m)) := by
  unfold slices_Equal_int_int.f
  by_cases h : l.length = m.length
  · refine evPos (by omega) ?_
    exact slices_Equal_l0 l m hl h l.length 0 (by omega)
  · refine evNeg (by omega) (evSome ?_)
    symm; rw [decide_eq_false_iff_not]; intro e; exact h (by rw [e])

theorem impl_Join_ev (a b c d : List Int) (hb : b.length ≤ 1048576) (hd : d.length ≤ 1048576) : Ev (fun k => impl_Join.f k a b c d) (joinA a b c d) := by
  unfold impl_Join.f joinA
  refine Ev.bind (impl_ArrayOk_ev a b hb) ?_
  have hbad : Ev (fun k => impl_Join.j0 k true a b c d) ([], [], 1) := Ev.step (fun k => by rw [impl_Join.j0]) (evPos rfl (Ev.now _))
  by_cases h1 : arrayOk a b = true
  · refine evPos h1 (Ev.bind (impl_ArrayOk_ev c d hd) ?_)
    by_cases h2 : arrayOk c d = true
    · rw [h2]
      refine evEq ?_ (if_pos (And.intro h1 rfl)).symm
      obtain ⟨m, t, e, hk⟩ := asRows_ok h1
      obtain ⟨m', t', e', hk'⟩ := asRows_ok h2
      obtain ⟨f1, f2, f3, f4, f5, f6⟩ := rows_facts hk
      obtain ⟨g1, g2, g3, g4, g5, g6⟩ := rows_facts hk'
      refine Ev.step (fun k => by rw [impl_Join.j0]) (evNeg (by simp) (evBind0 (impl_asRows_eq a b hb) (evBind0 (impl_asRows_eq c d hd) ?_)))
      rw [e, e']
      unfold joinS
      dsimp only
      by_cases h3 : t.length = t'.length
      · refine evEq (evPos (by simp only [List.length_cons]; omega) (evPos (by simp only [List.length_cons]; omega) (evPos (by simp only [List.length_cons]; omega) ?_))) (if_pos h3).symm
        rw [List.drop_succ_cons, List.drop_zero, List.drop_succ_cons, List.drop_zero]
        refine Ev.bind (slices_Equal_ev t t' (by omega)) ?_
        by_cases h4 : t = t'
        · subst h4
          refine evEq (evPos (decide_eq_true rfl) (Ev.bind (impl_Rows_ev (m :: t) b hb) (Ev.bind (impl_Rows_ev (m' :: t) d hd) ?_))) (if_pos rfl).symm
          have r1 : rows (m :: t) b = rowsN m.toNat t b (prod t).toNat := by rw [rows_cons, if_pos hk]
          have r2 : rows (m' :: t) d = rowsN m'.toNat t d (prod t).toNat := by rw [rows_cons, if_pos hk']
          have n1 := rowsN_length m.toNat t b (prod t).toNat
          have n2 := rowsN_length m'.toNat t d (prod t).toNat
          have hM : ∀ r ∈ rowsN m.toNat t b (prod t).toNat ++ rowsN m'.toNat t d (prod t).toNat, r.f1.length = (prod t).toNat := by
            intro r hr
            rcases List.mem_append.1 hr with hr | hr
            · exact rows_len hk r hr
            · exact rows_len hk' r hr
          have hL : (rowsN m.toNat t b (prod t).toNat ++ rowsN m'.toNat t d (prod t).toNat).length = m.toNat + m'.toNat := by rw [List.length_append, n1, n2]
          have hb3 : (m.toNat + m'.toNat) * (prod t).toNat = b.length + d.length := by rw [Nat.add_mul, f2, g2]
          have hj := impl_joined_evG (rowsN m.toNat t b (prod t).toNat ++ rowsN m'.toNat t d (prod t).toNat) t (prod t).toNat hM (by rw [hL, hb3]; omega) (by omega) (by omega)
          rw [hL, flat_append, flat_rows hk, flat_rows hk', show ((m.toNat + m'.toNat : Nat) : Int) = m + m' by omega] at hj
          rw [r1, r2]
          exact evPos (by omega) (Ev.bind hj (Ev.now _))
        · exact evEq (evNeg (by simpa using h4) (Ev.now _)) (if_neg h4).symm
      · exact evEq (evNeg (by simp only [List.length_cons]; omega) (Ev.now _)) (if_neg h3).symm
    · rw [Bool.eq_false_iff.2 h2]
      exact evEq hbad (if_neg (fun hh : _ ∧ _ => absurd hh.2 (by simp))).symm
  · exact evEq (evNeg h1 hbad) (if_neg (fun hh : _ ∧ _ => h1 hh.1)).symm

theorem spec_l3Vector_eq (l : List Int) (hl : l.length ≤ 1048576) : spec_l3Vector.f l = some (vec l) := by
  unfold spec_l3Vector.f
  rw [Option.bind_some, if_pos (by rw [List.length_nil]; omega)]; rfl

theorem spec_l5Vector_eq (s d : List Int) (hd : d.length ≤ 1048576) : spec_l5Vector.f s d = some (asRows s d) := by
  unfold spec_l5Vector.f asRows
  by_cases h : s.length = 0
  · rw [if_pos (by omega), if_pos h, spec_l3Vector_eq d hd]; rfl
  · rw [if_neg (by omega), if_neg h]

theorem spec_l1In_eq (a b c : Int) : spec_l1In.f a b c = some (decide (b ≤ a ∧ a ≤ c)) := by
  unfold spec_l1In.f
  by_cases h : a ≥ b
  · rw [if_pos h]; congr 1; rw [Bool.eq_iff_iff, decide_eq_true_iff, decide_eq_true_iff]; omega
  · rw [if_neg h]; congr 1; symm; rw [decide_eq_false_iff_not]; omega

theorem spec_SizeOf_l1 (l : List Int) (hl : ¬ 3 < l.length) (z : Bool) (hr : inR l = true) (hz : z = true → prod l = 0) (d : Nat) : ∀ (i : Nat), i + d = l.length → Ev (fun k => spec_SizeOf.l1 k l z (prod (l.take i)) (i : Int)) (if prod l > 300 then -1 else prod l) := by
  induction d with
  | zero =>
    intro i hi
    have e : l.take i = l := List.take_of_length_le (by omega)
    rw [e]
    refine Ev.step (f := fun _ => some (if prod l > 300 then -1 else prod l)) (fun k => ?_) (Ev.now _)
    simp only [spec_SizeOf.l1]; rw [if_neg (by omega)]
    by_cases h : prod l > 300
    · rw [if_pos h, if_pos h]
      rw [if_neg (by intro hh; have := hz hh; omega)]
    · rw [if_neg h, if_neg h]
  | succ d ih =>
    intro i hi
    have hlt : i < l.length := by omega
    have hr' := inR_take (i + 1) hr
    refine Ev.step (f := fun k => spec_SizeOf.l1 k l z (prod (l.take (i + 1))) ((i + 1 : Nat) : Int)) (fun k => ?_) (ih (i + 1) (by omega))
    simp only [spec_SizeOf.l1]
    have hp := prod_take_le l (i + 1) hl hr'
    rw [if_pos (by omega), if_pos (by omega), rdn l i hlt, w64s i (by omega), ← prod_take_succ l i hlt, w64 (by omega) (by omega)]
theorem prod_zero (l : List Int) (h : l.any (· == 0) = true) : prod l = 0 := by
  induction l with
  | nil => simp at h
  | cons a l ih =>
    rw [List.any_cons, Bool.or_eq_true] at h
    rcases h with h | h
    · have : a = 0 := by simpa using h
      rw [prod, this, Int.zero_mul]
    · rw [prod, ih h, Int.mul_zero]
theorem spec_SizeOf_l0 (l : List Int) (hl : ¬ 3 < l.length) (d : Nat) : ∀ (i : Nat) (z : Bool), i + d = l.length → inR (l.take i) = true → z = (l.take i).any (· == 0) → Ev (fun k => spec_SizeOf.l0 k l z (i : Int)) (if inR l = true then (if prod l > 300 then -1 else prod l) else -1) := by
  induction d with
  | zero =>
    intro i z hi hr hz
    have e : l.take i = l := List.take_of_length_le (by omega)
    rw [e] at hr hz
    rw [if_pos hr]
    refine Ev.step (f := fun k => spec_SizeOf.l1 k l z 1 0) (fun k => ?_) ?_
    · simp only [spec_SizeOf.l0]; rw [if_neg (by omega)]
    · exact spec_SizeOf_l1 l hl z hr (fun h => prod_zero l (by rw [← hz]; exact h)) l.length 0 (by omega)
  | succ d ih =>
    intro i z hi hr hz
    have hlt : i < l.length := by omega
    by_cases hx : 0 ≤ l[i] ∧ l[i] ≤ 300
    · have hr' := (inR_take_succ l i hlt).2 ⟨hr, hx⟩
      refine Ev.step (f := fun k => spec_SizeOf.l0 k l ((l.take (i + 1)).any (· == 0)) ((i + 1 : Nat) : Int)) (fun k => ?_) (ih (i + 1) _ (by omega) hr' rfl)
      simp only [spec_SizeOf.l0]
      rw [if_pos (by omega), if_pos (by omega), spec_l1In_eq, rdn l i hlt, decide_eq_true hx]
      simp only [Option.bind_some, if_true]
      rw [w64s i (by omega), List.take_succ_eq_append_getElem hlt, List.any_append, ← hz]
      cases z with
      | true => simp
      | false => simp
    · rw [if_neg (by rw [inR_not i hlt hx]; simp)]
      refine Ev.step (f := fun _ => some (-1)) (fun k => ?_) (Ev.now _)
      simp only [spec_SizeOf.l0]
      rw [if_pos (by omega), if_pos (by omega), spec_l1In_eq, rdn l i hlt, decide_eq_false hx]
      rfl
theorem spec_SizeOf_ev (l : List Int) : Ev (fun k => spec_SizeOf.f k l) (szOf l) := by
  unfold spec_SizeOf.f szOf
  by_cases h : 3 < l.length
  · rw [if_pos h]; exact evPos (by omega) (Ev.now _)
  · rw [if_neg h]
    refine evNeg (by omega) ?_
    exact spec_SizeOf_l0 l h l.length 0 false (by omega) (by simp [inR]) (by simp)

theorem spec_NumOk_eq (a : Int) : spec_NumOk.f a = some (okN a) := by
  unfold spec_NumOk.f; rw [spec_l1In_eq]; rfl

theorem spec_ArrayOk_l0 (s l : List Int) (hl : l.length ≤ 1048576) (d : Nat) : ∀ (i : Nat), i + d = l.length → (l.take i).all okN = true → Ev (fun k => spec_ArrayOk.l0 k (i : Int) s l) (l.all okN) := by
  induction d with
  | zero =>
    intro i hi ht
    refine Ev.step (f := fun _ => some true) (fun k => ?_) (evSome ?_)
    · simp only [spec_ArrayOk.l0]; rw [if_neg (by omega)]
    · rw [List.take_of_length_le (by omega)] at ht; exact ht.symm
  | succ d ih =>
    intro i hi ht
    have hlt : i < l.length := by omega
    by_cases hx : okN l[i] = true
    · refine Ev.step (f := fun k => spec_ArrayOk.l0 k ((i + 1 : Nat) : Int) s l) (fun k => ?_) (ih (i + 1) (by omega) (by rw [List.take_succ_eq_append_getElem hlt, List.all_append, ht]; simp [hx]))
      simp only [spec_ArrayOk.l0]
      rw [if_pos (by omega), if_pos (by omega), spec_NumOk_eq, rdn l i hlt]; simp only [Option.bind_some]; rw [if_pos hx, w64s i (by omega)]
    · refine Ev.step (f := fun _ => some false) (fun k => ?_) (evSome ?_)
      · simp only [spec_ArrayOk.l0]
        rw [if_pos (by omega), if_pos (by omega), spec_NumOk_eq, rdn l i hlt]; simp only [Option.bind_some]; rw [if_neg hx]
      · symm; rw [List.all_eq_false]; exact ⟨_, List.getElem_mem hlt, hx⟩
theorem spec_ArrayOk_ev (s d : List Int) (hd : d.length ≤ 1048576) : Ev (fun k => spec_ArrayOk.f k s d) (arrayOk s d) := by
  unfold spec_ArrayOk.f arrayOk
  refine Ev.bind (spec_SizeOf_ev s) ?_
  by_cases h : szOf s = (d.length : Int)
  · refine evPos h (evEq (spec_ArrayOk_l0 s d hd d.length 0 (by omega) (by simp)) ?_)
    rw [decide_eq_true h.symm]; rfl
  · exact evNeg h (evSome (by rw [decide_eq_false (fun e => h e.symm)]; rfl))

theorem spec_l2Same_l0 (l m : List Int) (hl : l.length ≤ 35184372088832) (hm : l.length = m.length) (d : Nat) : ∀ (i : Nat), i + d = l.length → Ev (fun k => spec_l2Same.l0 k l m (i : Int)) (decide (l.drop i = m.drop i)) := by
  induction d with
  | zero =>
    intro i hi
    refine Ev.step (f := fun _ => some (decide (l.drop i = m.drop i))) (fun k => ?_) (Ev.now _)
    simp only [spec_l2Same.l0]
    rw [if_neg (by omega), List.drop_of_length_le (by omega), List.drop_of_length_le (by omega)]; simp
  | succ d ih =>
    intro i hi
    have hlt : i < l.length := by omega
    have hlt' : i < m.length := by omega
    have e1 := List.drop_eq_getElem_cons hlt
    have e2 := List.drop_eq_getElem_cons hlt'
    by_cases hx : l[i] = m[i]
    · refine Ev.step (f := fun k => spec_l2Same.l0 k l m ((i + 1 : Nat) : Int)) (fun k => ?_) (evEq (ih (i + 1) (by omega)) ?_)
      · simp only [spec_l2Same.l0]
        rw [if_pos (by omega), if_pos (by omega), if_pos (by omega), rdn l i hlt, rdn m i hlt', if_pos hx, w64s i (by omega)]
      · rw [e1, e2, hx]; simp only [List.cons.injEq, true_and]
    · refine Ev.step (f := fun _ => some false) (fun k => ?_) (evSome ?_)
      · simp only [spec_l2Same.l0]
        rw [if_pos (by omega), if_pos (by omega), if_pos (by omega), rdn l i hlt, rdn m i hlt', if_neg hx]
      · rw [e1, e2]; symm; rw [decide_eq_false_iff_not]; intro h; exact hx (List.cons.inj h).1
theorem spec_l2Same_ev (l m : List Int) (hl : l.length ≤ 35184372088832) : Ev (fun k => spec_l2Same.f k l m) (decide (l = m)) := by
  unfold spec_l2Same.f
  by_cases h : l.length = m.length
  · refine evPos (by omega) ?_
    exact spec_l2Same_l0 l m hl h l.length 0 (by omega)
  · refine evNeg (by omega) (evSome ?_)
    symm; rw [decide_eq_false_iff_not]; intro e; exact h (by rw [e])
theorem spec_l5Right_ev (s d : List Int) (hd : d.length ≤ 1048576) : Ev (fun k => spec_l5Right.f k s d) (if arrayOk s d = true then (s, d, 0) else ([], [], 6)) := by
  unfold spec_l5Right.f
  refine Ev.bind (spec_ArrayOk_ev s d hd) ?_
  by_cases h : arrayOk s d = true
  · exact evEq (evPos h (Ev.now _)) (if_pos h).symm
  · exact evEq (evNeg h (Ev.now _)) (if_neg h).symm
theorem spec_Join_ev (a b c d : List Int) (hb : b.length ≤ 1048576) (hd : d.length ≤ 1048576) : Ev (fun k => spec_Join.f k a b c d) (joinA a b c d) := by
  unfold spec_Join.f joinA
  refine Ev.bind (spec_ArrayOk_ev a b hb) ?_
  have hbad : Ev (fun k => spec_Join.j0 k true a b c d) ([], [], 1) := Ev.step (fun k => by rw [spec_Join.j0]) (evPos rfl (Ev.now _))
  by_cases h1 : arrayOk a b = true
  · refine evPos h1 (Ev.bind (spec_ArrayOk_ev c d hd) ?_)
    by_cases h2 : arrayOk c d = true
    · rw [h2]
      refine evEq ?_ (if_pos (And.intro h1 rfl)).symm
      obtain ⟨m, t, e, hk⟩ := asRows_ok h1
      obtain ⟨m', t', e', hk'⟩ := asRows_ok h2
      obtain ⟨f1, f2, f3, f4, f5, f6⟩ := rows_facts hk
      obtain ⟨g1, g2, g3, g4, g5, g6⟩ := rows_facts hk'
      have a1 := (inR_cons.1 (szOf_nonneg (arrayOk_t hk).2.2.2.2).2.1).1
      have a2 := (inR_cons.1 (szOf_nonneg (arrayOk_t hk').2.2.2.2).2.1).1
      refine Ev.step (fun k => by rw [spec_Join.j0]) (evNeg (by simp) (evBind0 (spec_l5Vector_eq a b hb) (evBind0 (spec_l5Vector_eq c d hd) ?_)))
      rw [e, e']
      unfold joinS
      dsimp only
      by_cases h3 : t.length = t'.length
      · refine evEq (evPos (by simp only [List.length_cons]; omega) (evPos (by simp only [List.length_cons]; omega) (evPos (by simp only [List.length_cons]; omega) ?_))) (if_pos h3).symm
        rw [List.drop_succ_cons, List.drop_zero, List.drop_succ_cons, List.drop_zero]
        refine Ev.bind (spec_l2Same_ev t t' (by omega)) ?_
        have e0 : rd (m :: t) 0 = m := rfl
        have e1 : rd (m' :: t') 0 = m' := rfl
        by_cases h4 : t = t'
        · refine evEq (evPos (decide_eq_true h4) (evPos (by simp only [List.length_cons]; omega) (evPos (by simp only [List.length_cons]; omega) ?_))) (if_pos h4).symm
          rw [e0, e1, w64 (x := m + m') (by omega) (by omega)]
          refine evLet (evLet (evPos (by simp only [List.length_cons, List.length_nil]; omega) (evLet (evPos (by simp only [List.length_nil]; omega) (evLet (evPos (by simp only [List.length_append, List.length_nil]; omega) ?_))))))
          rw [List.nil_append, List.singleton_append]
          exact evEq (Ev.bind (spec_l5Right_ev ((m + m') :: t) (b ++ d) (by rw [List.length_append]; omega)) (Ev.now _)) (by split <;> rfl)
        · exact evEq (evNeg (by simpa using h4) (Ev.now _)) (if_neg h4).symm
      · exact evEq (evNeg (by simp only [List.length_cons]; omega) (Ev.now _)) (if_neg h3).symm
    · rw [Bool.eq_false_iff.2 h2]
      exact evEq hbad (if_neg (fun hh : _ ∧ _ => absurd hh.2 (by simp))).symm
  · exact evEq (evNeg h1 hbad) (if_neg (fun hh : _ ∧ _ => h1 hh.1)).symm

theorem laws_szIntS_eq (a : List Int) (n : Int) (ha : a.length ≤ 9223372036854775807) (h0 : 0 ≤ n) (h1 : n ≤ 1048576) : ∃ v, laws_szIntS.f a n = some v ∧ (v < 0 ∨ (0 ≤ v ∧ v ≤ n ∧ a.length ≤ 1048576)) := by
  unfold laws_szIntS.f
  rw [w64 (by omega) (by omega)]
  by_cases h : n - (a.length : Int) < 0
  · rw [if_pos h]; exact ⟨_, rfl, .inl (by omega)⟩
  · rw [if_neg h]; exact ⟨_, rfl, .inr (by omega)⟩
theorem laws_szArray_eq (a b : List Int) (n : Int) (ha : a.length ≤ 9223372036854775807) (hb : b.length ≤ 9223372036854775807) (h0 : 0 ≤ n) (h1 : n ≤ 1048576) : ∃ v, laws_szArray.f a b n = some v ∧ (v < 0 ∨ (0 ≤ v ∧ v ≤ 1048576 ∧ a.length ≤ 1048576 ∧ b.length ≤ 1048576)) := by
  unfold laws_szArray.f
  obtain ⟨v, hv, h⟩ := laws_szIntS_eq a n ha h0 h1
  rw [hv, Option.bind_some]
  rcases h with h | ⟨h2, h3, h4⟩
  · rw [if_pos h]; exact ⟨_, rfl, .inl (by omega)⟩
  · rw [if_neg (by omega)]
    obtain ⟨u, hu, h5⟩ := laws_szIntS_eq b v hb h2 (by omega)
    rw [hu, Option.bind_some]
    rcases h5 with h5 | ⟨h6, h7, h8⟩
    · rw [if_pos h5]; exact ⟨_, rfl, .inl (by omega)⟩
    · rw [if_neg (by omega)]; exact ⟨_, rfl, .inr (by omega)⟩

theorem laws_toIntS_l0 (l : List Int) (hl : l.length ≤ 35184372088832) (d : Nat) : ∀ (i : Nat) (m : List Int), i + d = l.length → m.length = l.length → m.take i = l.take i → Ev (fun k => laws_toIntS.l0 k l m (i : Int)) l := by
  induction d with
  | zero =>
    intro i m hi hm ht
    have e : m = l := by rw [List.take_of_length_le (by omega), List.take_of_length_le (by omega)] at ht; exact ht
    refine Ev.step (f := fun _ => some l) (fun k => ?_) (Ev.now _)
    simp only [laws_toIntS.l0]; rw [if_neg (by omega), e]
  | succ d ih =>
    intro i m hi hm ht
    have hlt : i < l.length := by omega
    refine Ev.step (f := fun k => laws_toIntS.l0 k l (m.set i l[i]) ((i + 1 : Nat) : Int)) (fun k => ?_) (ih (i + 1) (m.set i l[i]) (by omega) (by rw [List.length_set, hm]) ?_)
    · simp only [laws_toIntS.l0]
      rw [if_pos (by omega), if_pos (by omega), if_pos (by omega), rdn l i hlt, w64s i (by omega), Int.toNat_natCast]
    · rw [List.take_succ_eq_append_getElem (l := m.set i l[i]) (i := i) (by rw [List.length_set]; omega), List.take_succ_eq_append_getElem hlt, List.getElem_set_self, List.take_set_of_le (Nat.le_refl i), ht]
theorem laws_toIntS_ev (l : List Int) (hl : l.length ≤ 35184372088832) : Ev (fun k => laws_toIntS.f k l) l := by
  unfold laws_toIntS.f
  refine evPos (by omega) (evPos (by omega) ?_)
  exact laws_toIntS_l0 l hl l.length 0 _ (by omega) (by simp) (by simp)

theorem laws_toArray_ev (a b : List Int) (ha : a.length ≤ 1048576) (hb : b.length ≤ 1048576) : Ev (fun k => laws_toArray.f k a b) (a, b) := by
  unfold laws_toArray.f
  exact Ev.bind (laws_toIntS_ev a (by omega)) (Ev.bind (laws_toIntS_ev b (by omega)) (Ev.now _))

theorem laws_eqIntS_l0 (l m : List Int) (hl : l.length ≤ 35184372088832) (hm : l.length = m.length) (d : Nat) : ∀ (i : Nat), i + d = l.length → Ev (fun k => laws_eqIntS.l0 k l m (i : Int)) (decide (l.drop i = m.drop i)) := by
  induction d with
  | zero =>
    intro i hi
    refine Ev.step (f := fun _ => some (decide (l.drop i = m.drop i))) (fun k => ?_) (Ev.now _)
    simp only [laws_eqIntS.l0]
    rw [if_neg (by omega), List.drop_of_length_le (by omega), List.drop_of_length_le (by omega)]; simp
  | succ d ih =>
    intro i hi
    have hlt : i < l.length := by omega
    have hlt' : i < m.length := by omega
    have e1 := List.drop_eq_getElem_cons hlt
    have e2 := List.drop_eq_getElem_cons hlt'
    by_cases hx : l[i] = m[i]
    · refine Ev.step (f := fun k => laws_eqIntS.l0 k l m ((i + 1 : Nat) : Int)) (fun k => ?_) (evEq (ih (i + 1) (by omega)) ?_)
      · simp only [laws_eqIntS.l0]
        rw [if_pos (by omega), if_pos (by omega), if_pos (by omega), rdn l i hlt, rdn m i hlt', if_pos hx, w64s i (by omega)]
      · rw [e1, e2, hx]; simp only [List.cons.injEq, true_and]
    · refine Ev.step (f := fun _ => some false) (fun k => ?_) (evSome ?_)
      · simp only [laws_eqIntS.l0]
        rw [if_pos (by omega), if_pos (by omega), if_pos (by omega), rdn l i hlt, rdn m i hlt', if_neg hx]
      · rw [e1, e2]; symm; rw [decide_eq_false_iff_not]; intro h; exact hx (List.cons.inj h).1
theorem laws_eqIntS_ev (l m : List Int) (hl : l.length ≤ 35184372088832) : Ev (fun k => laws_eqIntS.f k l m) (decide (l = m)) := by
  unfold laws_eqIntS.f
  by_cases h : l.length = m.length
  · refine evPos (by omega) ?_
    exact laws_eqIntS_l0 l m hl h l.length 0 (by omega)
  · refine evNeg (by omega) (evSome ?_)
    symm; rw [decide_eq_false_iff_not]; intro e; exact h (by rw [e])
theorem laws_eqIntS_rfl (l : List Int) (hl : l.length ≤ 35184372088832) : Ev (fun k => laws_eqIntS.f k l l) true := evEq (laws_eqIntS_ev l l hl) (by simp)

theorem laws_eqArray_ev (a b c d : List Int) (ha : a.length ≤ 35184372088832) (hb : b.length ≤ 35184372088832) : Ev (fun k => laws_eqArray.f k a b c d) (decide (a = c ∧ b = d)) := by
  unfold laws_eqArray.f
  refine Ev.bind (laws_eqIntS_ev a c ha) ?_
  by_cases h : a = c
  · refine evPos (by simpa using h) (Ev.bind (laws_eqIntS_ev b d hb) ?_)
    by_cases h2 : b = d
    · exact evPos (by simpa using h2) (evSome (by simp [h, h2]))
    · exact evNeg (by simpa using h2) (evSome (by simp [h2]))
  · exact evNeg (by simpa using h) (evSome (by simp [h]))
theorem laws_eqArray_rfl (a b : List Int) (ha : a.length ≤ 35184372088832) (hb : b.length ≤ 35184372088832) : Ev (fun k => laws_eqArray.f k a b a b) true := evEq (laws_eqArray_ev a b a b ha hb) (by simp)

/-- The numbers that a mark leaves: from a on. -/
def asc (a : Int) : Nat → List Int
  | 0 => []
  | n + 1 => a :: asc (a + 1) n
theorem asc_length : ∀ (n : Nat) (a : Int), (asc a n).length = n
  | 0, _ => rfl
  | n + 1, a => by simp [asc, asc_length n]
theorem asc_get : ∀ (n : Nat) (a : Int) (i : Nat) (h : i < (asc a n).length), (asc a n)[i] = a + i
  | 0, _, i, h => by simp [asc] at h
  | n + 1, a, 0, _ => by simp [asc]
  | n + 1, a, i + 1, h => by
    have h2 : i < (asc (a + 1) n).length := by rw [asc_length] at h ⊢; omega
    have := asc_get n (a + 1) i h2
    simp only [asc, List.getElem_cons_succ, this]; omega
theorem asc_snoc : ∀ (n : Nat) (a : Int), asc a (n + 1) = asc a n ++ [a + n]
  | 0, a => by simp [asc]
  | n + 1, a => by
    rw [asc, asc_snoc n (a + 1)]; simp only [asc, List.cons_append]; congr 3; omega

theorem laws_markIntS_l0 (n : Nat) (a : Int) (hn : n ≤ 35184372088832) (h0 : 0 ≤ a) (h1 : a ≤ 1000000000000000) (d : Nat) : ∀ (i : Nat) (m : List Int), i + d = n → m.length = n → m.take i = asc a i → Ev (fun k => laws_markIntS.l0 k m (a + i) (i : Int)) (a + n, asc a n) := by
  induction d with
  | zero =>
    intro i m hi hm ht
    have hin : i = n := by omega
    have e : m = asc a n := by rw [List.take_of_length_le (by omega)] at ht; rw [ht, hin]
    refine Ev.step (f := fun _ => some (a + (n : Int), asc a n)) (fun k => ?_) (Ev.now _)
    simp only [laws_markIntS.l0]; rw [if_neg (by omega), e, hin]
  | succ d ih =>
    intro i m hi hm ht
    refine Ev.step (f := fun k => laws_markIntS.l0 k (m.set i (a + i)) (a + ((i + 1 : Nat) : Int)) ((i + 1 : Nat) : Int)) (fun k => ?_) (ih (i + 1) (m.set i (a + i)) (by omega) (by rw [List.length_set, hm]) ?_)
    · simp only [laws_markIntS.l0]
      have e : wrap64 (a + (i : Int) + 1) = a + ((i + 1 : Nat) : Int) := by rw [w64] <;> omega
      rw [if_pos (by omega), if_pos (by omega), w64s i (by omega), Int.toNat_natCast, e]
    · rw [List.take_succ_eq_append_getElem (l := m.set i (a + i)) (i := i) (by rw [List.length_set]; omega), List.getElem_set_self, List.take_set_of_le (Nat.le_refl i), ht, asc_snoc]
theorem laws_markIntS_ev (l : List Int) (a : Int) (hl : l.length ≤ 35184372088832) (h0 : 0 ≤ a) (h1 : a ≤ 1000000000000000) : Ev (fun k => laws_markIntS.f k l a) (a + l.length, asc a l.length) := by
  unfold laws_markIntS.f
  have := laws_markIntS_l0 l.length a hl h0 h1 l.length 0 l (by omega) rfl (by simp [asc])
  simpa using this

theorem laws_markArray_ev (a b : List Int) (n : Int) (ha : a.length ≤ 35184372088832) (hb : b.length ≤ 35184372088832) (h0 : 0 ≤ n) (h1 : n ≤ 500000000000000) : Ev (fun k => laws_markArray.f k a b n) (n + a.length + b.length, asc n a.length, asc (n + a.length) b.length) := by
  unfold laws_markArray.f
  refine Ev.bind (laws_markIntS_ev a n ha h0 (by omega)) (Ev.bind (laws_markIntS_ev b _ hb (by omega) (by omega)) (Ev.now _))

theorem laws_heldIntS_l0 (n : Nat) (a : Int) (hn : n ≤ 35184372088832) (h0 : 0 ≤ a) (h1 : a ≤ 1000000000000000) (d : Nat) : ∀ (i : Nat), i + d = n → Ev (fun k => laws_heldIntS.l0 k (asc a n) (a + i) (i : Int)) (a + n) := by
  induction d with
  | zero =>
    intro i hi
    have hin : i = n := by omega
    refine Ev.step (f := fun _ => some (a + (n : Int))) (fun k => ?_) (Ev.now _)
    simp only [laws_heldIntS.l0]; rw [if_neg (by rw [asc_length]; omega), hin]
  | succ d ih =>
    intro i hi
    refine Ev.step (f := fun k => laws_heldIntS.l0 k (asc a n) (a + ((i + 1 : Nat) : Int)) ((i + 1 : Nat) : Int)) (fun k => ?_) (ih (i + 1) (by omega))
    simp only [laws_heldIntS.l0]
    have e : wrap64 (a + (i : Int) + 1) = a + ((i + 1 : Nat) : Int) := by rw [w64] <;> omega
    have hlt : i < (asc a n).length := by rw [asc_length]; omega
    rw [if_pos (by rw [asc_length]; omega), if_pos (by omega), rdn _ i hlt, asc_get n a i hlt, if_pos rfl, w64s i (by omega), e]
theorem laws_heldIntS_ev (n : Nat) (a : Int) (hl : n ≤ 35184372088832) (h0 : 0 ≤ a) (h1 : a ≤ 1000000000000000) : Ev (fun k => laws_heldIntS.f k (asc a n) a) (a + n) := by
  unfold laws_heldIntS.f
  have := laws_heldIntS_l0 n a hl h0 h1 n 0 (by omega)
  simpa using this

theorem laws_heldArray_ev (a b : Nat) (n : Int) (ha : a ≤ 35184372088832) (hb : b ≤ 35184372088832) (h0 : 0 ≤ n) (h1 : n ≤ 500000000000000) : Ev (fun k => laws_heldArray.f k (asc n a) (asc (n + a) b) n) (n + a + b) := by
  unfold laws_heldArray.f
  refine Ev.bind (laws_heldIntS_ev a n ha h0 (by omega)) (evNeg (by omega) (Ev.bind (laws_heldIntS_ev b _ hb (by omega) (by omega)) (evNeg (by omega) (Ev.now _))))

theorem FnExactJoin : ∀ (l0_0 : List Int) (l0_1 : List Int) (l1_0 : List Int) (l1_1 : List Int), l0_0.length ≤ maxLen → (∀ x ∈ l0_0, (Lit.int .i64 x).wf = true) → l0_1.length ≤ maxLen → (∀ x ∈ l0_1, (Lit.int .i64 x).wf = true) → l1_0.length ≤ maxLen → (∀ x ∈ l1_0, (Lit.int .i64 x).wf = true) → l1_1.length ≤ maxLen → (∀ x ∈ l1_1, (Lit.int .i64 x).wf = true) → ∃ k, laws_FnExactJoin.f k l0_0 l0_1 l1_0 l1_1 = some true := by
  intro l0_0 l0_1 l1_0 l1_1 hm_l0_0 hw_l0_0 hm_l0_1 hw_l0_1 hm_l1_0 hw_l1_0 hm_l1_1 hw_l1_1
  have hn_l0_0 : l0_0.length ≤ 9223372036854775807 := hm_l0_0
  have hn_l0_1 : l0_1.length ≤ 9223372036854775807 := hm_l0_1
  have hn_l1_0 : l1_0.length ≤ 9223372036854775807 := hm_l1_0
  have hn_l1_1 : l1_1.length ≤ 9223372036854775807 := hm_l1_1
  suffices hE_ : Ev (fun k => laws_FnExactJoin.f k l0_0 l0_1 l1_0 l1_1) true from Exists.elim hE_ (fun K_ h_ => ⟨K_, h_ K_ (Nat.le_refl _)⟩)
  unfold laws_FnExactJoin.f
  obtain ⟨v0, e0, h0⟩ := laws_szArray_eq l0_0 l0_1 1048576 hn_l0_0 hn_l0_1 (by omega) (by omega)
  refine evBind0 e0 ?_
  rcases h0 with h0 | ⟨ha0, hb0, hc0, hd0⟩
  · exact evPos h0 (Ev.now _)
  refine evNeg (by omega) ?_
  obtain ⟨v1, e1, h1⟩ := laws_szArray_eq l1_0 l1_1 v0 hn_l1_0 hn_l1_1 (by omega) (by omega)
  refine evBind0 e1 ?_
  rcases h1 with h1 | ⟨ha1, hb1, hc1, hd1⟩
  · exact evPos h1 (Ev.now _)
  refine evNeg (by omega) ?_
  have hv := joinA_len l0_0 l0_1 l1_0 l1_1
  repeat' (first
    | (dsimp only)
    | (with_reducible exact Ev.now _)
    | (with_reducible refine evPos rfl ?_)
    | (refine evNeg ?hc ?_; (case hc => first | omega | (simp; done)))
    | (refine evPos ?hc ?_; (case hc => omega))
    | (refine Ev.bind (laws_toArray_ev _ _ (by omega) (by omega)) ?_)
    | (refine Ev.bind (laws_toIntS_ev _ (by omega)) ?_)
    | (refine Ev.bind (laws_eqArray_rfl _ _ (by omega) (by omega)) ?_)
    | (refine Ev.bind (laws_eqIntS_rfl _ (by omega)) ?_)
    | (refine Ev.bind (laws_markArray_ev _ _ _ (by omega) (by omega) (by omega) (by omega)) ?_)
    | (refine Ev.bind (laws_heldArray_ev _ _ _ (by omega) (by omega) (by omega) (by omega)) ?_)
    | (refine Ev.bind (laws_markIntS_ev _ _ (by omega) (by omega) (by omega)) ?_)
    | (refine Ev.bind (laws_heldIntS_ev _ _ (by omega) (by omega) (by omega)) ?_)
    | (refine Ev.bind (spec_Join_ev _ _ _ _ (by omega) (by omega)) ?_)
    | (refine Ev.bind (impl_Join_ev _ _ _ _ (by omega) (by omega)) ?_)
    | (refine Ev.step (fun k => by simp only [laws_FnExactJoin.j0]; rfl) ?_)
    | (refine Ev.step (fun k => by simp only [laws_FnExactJoin.j1]; rfl) ?_)
    | (refine Ev.step (fun k => by simp only [laws_FnExactJoin.j2]; rfl) ?_)
  )


end Go.Proofs.Ytcnbajdnlkcjjaa.Pure
