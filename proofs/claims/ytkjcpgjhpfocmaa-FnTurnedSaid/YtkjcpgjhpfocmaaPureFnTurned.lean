/- The law FnTurned answers true for each code: a drawn array that is turned, or flipped, twice is as it was; rotated by a number and by what is left of it, too. Conditions: those of the row's own reading alone. -/
import Derived.Test.YtkjcpgjhpfocmaaPFnTurnedx
namespace Go.Proofs.Ytkjcpgjhpfocmaa.Pure
open Go.RowKit Go.Proofs.Ytkjcpgjhpfocmaa.PFnTurned Go.Proofs.YtkjcpgjhpfocmaaW.PrintWords Go.Proofs.YtkjcpgjhpfocmaaW.PrintLast Go.Proofs.YtkjcpgjhpfocmaaW.PrintMore
set_option linter.unusedVariables false
set_option linter.unusedSimpArgs false

section
variable {α β : Type}
theorem evPos {c : Prop} [Decidable c] {g h : Nat → Option α} {r : α} (hc : c) (e : Ev g r) : Ev (fun k => if c then g k else h k) r := by
  simpa only [if_pos hc] using e
theorem evNeg {c : Prop} [Decidable c] {g h : Nat → Option α} {r : α} (hc : ¬ c) (e : Ev h r) : Ev (fun k => if c then g k else h k) r := by
  simpa only [if_neg hc] using e
theorem evBind0 {o : Option α} {f : Nat → α → Option β} {a : α} {r : β} (h : o = some a) (k : Ev (fun n => f n a) r) : Ev (fun n => o.bind (f n)) r := by
  subst h; simpa only [Option.bind_some] using k
theorem evLet {a : α} {f : Nat → α → Option β} {r : β} (k : Ev (fun n => f n a) r) : Ev (fun n => (some a).bind (f n)) r := by
  simpa only [Option.bind_some] using k
theorem evEq {g : Nat → Option α} {r r' : α} (h : Ev g r) (e : r = r') : Ev g r' := e ▸ h
theorem evSome {a r : α} (e : a = r) : Ev (fun _ => some a) r := e ▸ Ev.now a
end
theorem w64 {x : Int} (h : -9223372036854775808 ≤ x) (h' : x ≤ 9223372036854775807) : wrap64 x = x := by unfold wrap64; omega
theorem w64s (i : Nat) (h : i < 4611686018427387904) : wrap64 ((i : Int) + 1) = ((i + 1 : Nat) : Int) := by rw [w64] <;> omega
theorem rdn (l : List Int) (i : Nat) (h : i < l.length) : rd l (i : Int) = l[i] := by
  simp only [rd, Int.toNat_natCast, List.getD_eq_getElem?_getD, List.getElem?_eq_getElem h, Option.getD_some]
/-- The product of a list. -/
def prod : List Int → Int
  | [] => 1
  | x :: l => x * prod l
/-- May these stand in a shape? -/
def inR (l : List Int) : Bool := l.all fun n => decide (0 ≤ n ∧ n ≤ 300)
/-- How many numbers an array of a shape has; -1 where the shape isn't right. -/
def szOf (l : List Int) : Int := if 3 < l.length then -1 else if inR l = true then (if prod l > 300 then -1 else prod l) else -1
theorem mul300 {a b : Int} {m n : Int} (h0 : 0 ≤ a) (h1 : a ≤ m) (h2 : 0 ≤ b) (h3 : b ≤ n) : 0 ≤ a * b ∧ a * b ≤ m * n :=
  ⟨Int.mul_nonneg h0 h2, Int.mul_le_mul h1 h3 h2 (Int.le_trans h0 h1)⟩
theorem shape_cases {l : List Int} (h : ¬ 3 < l.length) : l = [] ∨ (∃ a, l = [a]) ∨ (∃ a b, l = [a, b]) ∨ ∃ a b c, l = [a, b, c] := by
  match l, h with
  | [], _ => exact .inl rfl
  | [a], _ => exact .inr (.inl ⟨a, rfl⟩)
  | [a, b], _ => exact .inr (.inr (.inl ⟨a, b, rfl⟩))
  | [a, b, c], _ => exact .inr (.inr (.inr ⟨a, b, c, rfl⟩))
  | _ :: _ :: _ :: _ :: _, h => exact absurd (by simp) h
theorem inR_cons {a : Int} {l : List Int} : inR (a :: l) = true ↔ (0 ≤ a ∧ a ≤ 300) ∧ inR l = true := by
  simp [inR]
/-- A part of a shape's product stays small. -/
def pw : Nat → Int
  | 0 => 1
  | n + 1 => 300 * pw n
theorem prod_le : ∀ (l : List Int), inR l = true → 0 ≤ prod l ∧ prod l ≤ pw l.length
  | [], _ => by simp [prod, pw]
  | a :: l, h => by
    obtain ⟨⟨h0, h1⟩, h2⟩ := inR_cons.1 h
    obtain ⟨h3, h4⟩ := prod_le l h2
    exact mul300 h0 h1 h3 h4
theorem prod_append : ∀ (a b : List Int), prod (a ++ b) = prod a * prod b
  | [], b => by simp [prod]
  | x :: a, b => by simp [prod, prod_append a b, Int.mul_assoc]
theorem pw_le {n : Nat} (h : n ≤ 3) : pw n ≤ 27000000 := by
  match n, h with
  | 0, _ => decide
  | 1, _ => decide
  | 2, _ => decide
  | 3, _ => decide
theorem inR_take {l : List Int} (i : Nat) (h : inR l = true) : inR (l.take i) = true := by
  simp only [inR, List.all_eq_true] at h ⊢
  exact fun x hx => h x (List.mem_of_mem_take hx)
theorem prod_take_succ (l : List Int) (i : Nat) (h : i < l.length) : prod (l.take (i + 1)) = prod (l.take i) * l[i] := by
  rw [List.take_succ_eq_append_getElem h, prod_append]; simp [prod]
/-- The product so far is small. -/
theorem prod_take_le (l : List Int) (i : Nat) (hl : ¬ 3 < l.length) (h : inR (l.take i) = true) : 0 ≤ prod (l.take i) ∧ prod (l.take i) ≤ 27000000 := by
  obtain ⟨h0, h1⟩ := prod_le _ h
  have h2 : (l.take i).length ≤ 3 := by rw [List.length_take]; omega
  exact ⟨h0, Int.le_trans h1 (pw_le h2)⟩
theorem inR_take_succ (l : List Int) (i : Nat) (h : i < l.length) : inR (l.take (i + 1)) = true ↔ inR (l.take i) = true ∧ (0 ≤ l[i] ∧ l[i] ≤ 300) := by
  unfold inR
  rw [List.take_succ_eq_append_getElem h, List.all_append, Bool.and_eq_true]; simp
theorem inR_not {l : List Int} (i : Nat) (h : i < l.length) (hx : ¬ (0 ≤ l[i] ∧ l[i] ≤ 300)) : inR l = false := by
  rw [← Bool.not_eq_true]
  intro hh
  simp only [inR, List.all_eq_true] at hh
  exact hx (of_decide_eq_true (hh _ (List.getElem_mem h)))
theorem szOf_ge (l : List Int) : -1 ≤ szOf l ∧ szOf l ≤ 300 := by
  unfold szOf
  by_cases h1 : 3 < l.length
  · rw [if_pos h1]; omega
  · rw [if_neg h1]
    by_cases h2 : inR l = true
    · rw [if_pos h2]
      have := (prod_le l h2).1
      by_cases h3 : prod l > 300
      · rw [if_pos h3]; omega
      · rw [if_neg h3]; omega
    · rw [if_neg h2]; omega

/-- A right number. -/
def okN (x : Int) : Bool := decide (-1000000000000 ≤ x ∧ x ≤ 1000000000000)
theorem okN_t {x : Int} (h : okN x = true) : -1000000000000 ≤ x ∧ x ≤ 1000000000000 := of_decide_eq_true h
/-- The place of an index, from a number on; -1 where the index isn't right. -/
def placeGo : Int → List Int → List Int → Int
  | a, n :: s, i :: x => if 0 ≤ i ∧ i ≤ n - 1 then placeGo (a * n + i) s x else -1
  | a, _, _ => a
def placeOf (s x : List Int) : Int := if szOf s ≥ 0 ∧ x.length = s.length then placeGo 0 s x else -1
theorem szOf_nonneg {l : List Int} (h : szOf l ≥ 0) : ¬ 3 < l.length ∧ inR l = true ∧ prod l ≤ 300 ∧ szOf l = prod l := by
  unfold szOf at h ⊢
  by_cases h1 : 3 < l.length
  · rw [if_pos h1] at h; omega
  · rw [if_neg h1] at h ⊢
    by_cases h2 : inR l = true
    · rw [if_pos h2] at h ⊢
      by_cases h3 : prod l > 300
      · rw [if_pos h3] at h; omega
      · rw [if_neg h3] at h ⊢; exact ⟨h1, h2, by omega, rfl⟩
    · rw [if_neg h2] at h; omega
def pb : Nat → Int
  | 0 => 0
  | n + 1 => 300 * pb n + 300
theorem pb_le {n : Nat} (h : n ≤ 3) : pb n ≤ 28000000 := by
  match n, h with
  | 0, _ => decide
  | 1, _ => decide
  | 2, _ => decide
  | 3, _ => decide

def arrayOk (s d : List Int) : Bool := decide ((d.length : Int) = szOf s) && d.all okN
theorem arrayOk_t {s d : List Int} (h : arrayOk s d = true) : (d.length : Int) = szOf s ∧ (∀ x ∈ d, okN x = true) ∧ d.length ≤ 300 ∧ s.length ≤ 3 ∧ szOf s ≥ 0 := by
  unfold arrayOk at h
  rw [Bool.and_eq_true, decide_eq_true_iff, List.all_eq_true] at h
  have h1 := szOf_ge s
  have h2 : szOf s ≥ 0 := by omega
  exact ⟨h.1, h.2, by omega, by have := (szOf_nonneg h2).1; omega, h2⟩

def row (t d : List Int) (M i : Nat) : S26 := ⟨t, (d.take ((i + 1) * M)).drop (i * M)⟩
def rowsN (N : Nat) (t d : List Int) (M : Nat) : List S26 := (List.range N).map (row t d M)
theorem rowsN_length (N : Nat) (t d : List Int) (M : Nat) : (rowsN N t d M).length = N := by unfold rowsN; simp
theorem rowsN_rd (N : Nat) (t d : List Int) (M i : Nat) (h : i < N) : rd_T26 (rowsN N t d M) (i : Int) = row t d M i := by
  unfold rd_T26 rowsN
  rw [Int.toNat_natCast, List.getD_eq_getElem?_getD, List.getElem?_eq_getElem (by simp; exact h)]; simp
def rows (s d : List Int) : List S26 := match s with
  | [] => []
  | n :: t => if arrayOk (n :: t) d = true then rowsN n.toNat t d (prod t).toNat else []
theorem rows_cons (n : Int) (t d : List Int) : rows (n :: t) d = if arrayOk (n :: t) d = true then rowsN n.toNat t d (prod t).toNat else [] := rfl
theorem wmul (a b : Nat) (h : a * b ≤ 1048576) : wrap64 ((a : Int) * (b : Int)) = ((a * b : Nat) : Int) := by
  have e : ((a * b : Nat) : Int) = (a : Int) * (b : Int) := Int.natCast_mul a b
  rw [w64] <;> omega
theorem rows_facts {n : Int} {t d : List Int} (h : arrayOk (n :: t) d = true) : 0 ≤ n ∧ n.toNat * (prod t).toNat = d.length ∧ n.toNat ≤ 300 ∧ (0 < n.toNat → szOf t = ((prod t).toNat : Int)) ∧ d.length ≤ 300 ∧ t.length ≤ 2 := by
  obtain ⟨h1, h2, h3, h4, h5⟩ := arrayOk_t h
  obtain ⟨g1, g2, g3, g4⟩ := szOf_nonneg h5
  obtain ⟨⟨a1, a2⟩, a3⟩ := inR_cons.1 g2
  have p0 := (prod_le t a3).1
  have ep : prod (n :: t) = n * prod t := rfl
  have hp : ((n.toNat * (prod t).toNat : Nat) : Int) = n * prod t := by rw [Int.natCast_mul, Int.toNat_of_nonneg a1, Int.toNat_of_nonneg p0]
  simp only [List.length_cons] at h4
  refine ⟨a1, by omega, by omega, fun hn => ?_, h3, by omega⟩
  have hle : prod t ≤ n * prod t := by
    have := Int.mul_le_mul_of_nonneg_right (show 1 ≤ n by omega) p0; rwa [Int.one_mul] at this
  unfold szOf
  rw [if_neg (by omega), if_pos a3, if_neg (by omega)]; omega
theorem row_len {N M i : Nat} {t d : List Int} (hd : N * M = d.length) (h : i < N) : (row t d M i).f1.length = M := by
  have h1 : (i + 1) * M ≤ N * M := Nat.mul_le_mul_right _ h
  have h2 : (i + 1) * M = i * M + M := Nat.succ_mul i M
  show ((d.take ((i + 1) * M)).drop (i * M)).length = M
  rw [List.length_drop, List.length_take, Nat.min_eq_left (by omega)]; omega
def flat (rs : List S26) : List Int := (rs.map (fun r => r.f1)).flatten
theorem flat_append (a b : List S26) : flat (a ++ b) = flat a ++ flat b := by unfold flat; simp
theorem flat_one (r : S26) : flat [r] = r.f1 := by unfold flat; simp
theorem flat_len (M : Nat) : ∀ (rs : List S26), (∀ r ∈ rs, r.f1.length = M) → (flat rs).length = rs.length * M
  | [], _ => by simp [flat]
  | r :: rs, h => by
    have ih := flat_len M rs (fun x hx => h x (List.mem_cons_of_mem _ hx))
    have h1 := h r (List.mem_cons_self ..)
    have e : flat (r :: rs) = r.f1 ++ flat rs := by unfold flat; simp
    rw [e, List.length_append, ih, h1, List.length_cons, Nat.succ_mul, Nat.add_comm]
theorem flat_take (rs : List S26) (i : Nat) (h : i < rs.length) : flat (rs.take (i + 1)) = flat (rs.take i) ++ rs[i].f1 := by
  rw [List.take_add_one, List.getElem?_eq_getElem h, flat_append, Option.toList_some, flat_one]
theorem rdT (rs : List S26) (i : Nat) (h : i < rs.length) : rd_T26 rs (i : Int) = rs[i] := by
  unfold rd_T26
  rw [Int.toNat_natCast, List.getD_eq_getElem?_getD, List.getElem?_eq_getElem h]; rfl
def rotI (N : Nat) (n : Int) (i : Nat) : Nat := (((i : Int) + n) % (N : Int)).toNat
def rotN (N : Nat) (t d : List Int) (M : Nat) (n : Int) : List S26 := (List.range N).map (fun i => row t d M (rotI N n i))
theorem rotI_lt (N : Nat) (n : Int) (i : Nat) (h : 0 < N) : rotI N n i < N := by
  have h1 := Int.emod_nonneg ((i : Int) + n) (show (N : Int) ≠ 0 by omega)
  have h2 := Int.emod_lt_of_pos ((i : Int) + n) (show (0 : Int) < N by omega)
  unfold rotI; omega
theorem rotN_length (N : Nat) (t d : List Int) (M : Nat) (n : Int) : (rotN N t d M n).length = N := by unfold rotN; simp
theorem rotN_row {N M : Nat} {t d : List Int} {n : Int} (hd : N * M = d.length) : ∀ r ∈ rotN N t d M n, r.f1.length = M := by
  intro r hr
  unfold rotN at hr
  rw [List.mem_map] at hr
  obtain ⟨i, hi, rfl⟩ := hr
  rw [List.mem_range] at hi
  exact row_len hd (rotI_lt N n i (by omega))
theorem rotN_ok {N M : Nat} {t d : List Int} {n : Int} (h : ∀ x ∈ d, okN x = true) : (flat (rotN N t d M n)).all okN = true := by
  rw [List.all_eq_true]
  intro x hx
  unfold flat at hx
  rw [List.mem_flatten] at hx
  obtain ⟨l, hl, hx⟩ := hx
  rw [List.mem_map] at hl
  obtain ⟨r, hr, rfl⟩ := hl
  unfold rotN at hr
  rw [List.mem_map] at hr
  obtain ⟨i, _, rfl⟩ := hr
  exact h x (List.mem_of_mem_take (List.mem_of_mem_drop hx))
theorem rot_flat_ok {m : Int} {t d : List Int} {n : Int} (h : arrayOk (m :: t) d = true) : arrayOk (m :: t) (flat (rotN m.toNat t d (prod t).toNat n)) = true ∧ (flat (rotN m.toNat t d (prod t).toNat n)).length = d.length := by
  obtain ⟨f1, f2, f3, f4, f5, f6⟩ := rows_facts h
  obtain ⟨g1, g2, g3, g4, g5⟩ := arrayOk_t h
  have hl := flat_len (prod t).toNat (rotN m.toNat t d (prod t).toNat n) (rotN_row f2)
  rw [rotN_length, f2] at hl
  refine ⟨?_, hl⟩
  unfold arrayOk
  rw [Bool.and_eq_true, decide_eq_true_iff]
  exact ⟨by rw [hl]; exact g1, rotN_ok g2⟩
theorem tm (x : Int) (N : Nat) (h : 0 < N) (h3 : N ≤ 300) : Int.tmod (wrap64 (Int.tmod x (N : Int) + (N : Int))) (N : Int) = x % (N : Int) := by
  have h1 := Int.emod_nonneg x (show (N : Int) ≠ 0 by omega)
  have h2 := Int.emod_lt_of_pos x (show (0 : Int) < N by omega)
  have e := Int.tmod_eq_emod (a := x) (b := (N : Int))
  rw [e]
  split
  · rw [w64 (by omega) (by omega), Int.tmod_eq_emod_of_nonneg (by omega)]
    have e2 : x % (N : Int) - ((0 : Nat) : Int) + (N : Int) = x % (N : Int) + 1 * (N : Int) := by omega
    rw [e2, Int.add_mul_emod_self_right, Int.emod_eq_of_lt h1 h2]
  · have e2 : x % (N : Int) - ((N : Int).natAbs : Int) + (N : Int) = x % (N : Int) := by omega
    rw [e2, w64 (by omega) (by omega), Int.tmod_eq_emod_of_nonneg h1, Int.emod_eq_of_lt h1 h2]
theorem rot_impl (n : Int) (N i : Nat) (h : 0 < N) (h3 : N ≤ 300) (hi : i < N) (hn : -1000000000000 ≤ n ∧ n ≤ 1000000000000) : Int.tmod (wrap64 (Int.tmod (wrap64 ((i : Int) + n)) (N : Int) + (N : Int))) (N : Int) = ((rotI N n i : Nat) : Int) := by
  rw [w64 (x := (i : Int) + n) (by omega) (by omega), tm _ N h h3]
  unfold rotI
  rw [Int.toNat_of_nonneg (Int.emod_nonneg _ (by omega))]
def rotate (a b c d : List Int) : List Int × List Int × Int :=
  if arrayOk a b = true ∧ arrayOk c d = true then
    (if b.length = 1 then
      (match c with
        | [] => ([], d, 0)
        | m :: t => if m = 0 then (m :: t, d, 0) else (m :: t, flat (rotN m.toNat t d (prod t).toNat (rd b 0)), 0))
    else ([], [], 3))
  else ([], [], 1)
def revR (m : Int) (t d : List Int) : List S26 := (rowsN m.toNat t d (prod t).toNat).reverse
theorem revR_length (m : Int) (t d : List Int) : (revR m t d).length = m.toNat := by unfold revR; rw [List.length_reverse, rowsN_length]
theorem rowsN_row {N M : Nat} {t d : List Int} (hd : N * M = d.length) : ∀ r ∈ rowsN N t d M, r.f1.length = M := by
  intro r hr
  unfold rowsN at hr
  rw [List.mem_map] at hr
  obtain ⟨i, hi, rfl⟩ := hr
  rw [List.mem_range] at hi
  exact row_len hd hi
theorem revR_row {m : Int} {t d : List Int} (hd : m.toNat * (prod t).toNat = d.length) : ∀ r ∈ revR m t d, r.f1.length = (prod t).toNat := fun r hr => rowsN_row hd r (List.mem_reverse.1 hr)
theorem rev_flat_ok {m : Int} {t d : List Int} (h : arrayOk (m :: t) d = true) : arrayOk (m :: t) (flat (revR m t d)) = true ∧ (flat (revR m t d)).length = d.length := by
  obtain ⟨f1, f2, f3, f4, f5, f6⟩ := rows_facts h
  obtain ⟨g1, g2, g3, g4, g5⟩ := arrayOk_t h
  have hl := flat_len (prod t).toNat (revR m t d) (revR_row f2)
  rw [revR_length, f2] at hl
  refine ⟨?_, hl⟩
  unfold arrayOk
  rw [Bool.and_eq_true, decide_eq_true_iff]
  refine ⟨by rw [hl]; exact g1, ?_⟩
  rw [List.all_eq_true]
  intro x hx
  unfold flat at hx
  rw [List.mem_flatten] at hx
  obtain ⟨l, hl, hx⟩ := hx
  rw [List.mem_map] at hl
  obtain ⟨r, hr, rfl⟩ := hl
  unfold revR at hr
  rw [List.mem_reverse] at hr
  unfold rowsN at hr
  rw [List.mem_map] at hr
  obtain ⟨i, _, rfl⟩ := hr
  exact g2 x (List.mem_of_mem_take (List.mem_of_mem_drop hx))
def turn (a b : List Int) : List Int × List Int × Int :=
  if arrayOk a b = true then
    (match a with
      | [] => ([], b, 0)
      | m :: t => (m :: t, flat (revR m t b), 0))
  else ([], [], 1)
theorem impl_within_eq (a b c : Int) : impl_within.f a b c = some (decide (b ≤ a ∧ a ≤ c)) := by
  unfold impl_within.f
  by_cases h : a ≥ b
  · rw [if_pos h]; congr 1; rw [Bool.eq_iff_iff, decide_eq_true_iff, decide_eq_true_iff]; omega
  · rw [if_neg h]; congr 1; symm; rw [decide_eq_false_iff_not]; omega

theorem impl_SizeOf_l0 (l : List Int) (hl : ¬ 3 < l.length) (d : Nat) : ∀ (i : Nat), i + d = l.length → inR (l.take i) = true → Ev (fun k => impl_SizeOf.l0 k (prod (l.take i)) l (l.length : Int) (i : Int)) (if inR l = true then (if prod l > 300 then -1 else prod l) else -1) := by
  induction d with
  | zero =>
    intro i hi hr
    have e : l.take i = l := List.take_of_length_le (by omega)
    rw [e] at hr ⊢
    rw [if_pos hr]
    refine Ev.step (f := fun _ => some (if prod l > 300 then -1 else prod l)) (fun k => ?_) (Ev.now _)
    simp only [impl_SizeOf.l0]; rw [if_neg (by omega)]
    by_cases h : prod l > 300
    · rw [if_pos h, if_pos h]
    · rw [if_neg h, if_neg h]
  | succ d ih =>
    intro i hi hr
    have hlt : i < l.length := by omega
    by_cases hx : 0 ≤ l[i] ∧ l[i] ≤ 300
    · have hr' := (inR_take_succ l i hlt).2 ⟨hr, hx⟩
      refine Ev.step (f := fun k => impl_SizeOf.l0 k (prod (l.take (i + 1))) l (l.length : Int) ((i + 1 : Nat) : Int)) (fun k => ?_) (ih (i + 1) (by omega) hr')
      simp only [impl_SizeOf.l0]
      rw [if_pos (by omega), if_pos (by omega), if_pos (by omega), impl_within_eq, rdn l i hlt, decide_eq_true hx]
      simp only [Option.bind_some, if_true]
      have hp := prod_take_le l (i + 1) hl hr'
      rw [w64s i (by omega), ← prod_take_succ l i hlt, w64 (by omega) (by omega)]
    · rw [if_neg (by rw [inR_not i hlt hx]; simp)]
      refine Ev.step (f := fun _ => some (-1)) (fun k => ?_) (Ev.now _)
      simp only [impl_SizeOf.l0]
      rw [if_pos (by omega), if_pos (by omega), if_pos (by omega), impl_within_eq, rdn l i hlt, decide_eq_false hx]
      rfl
theorem impl_SizeOf_ev (l : List Int) : Ev (fun k => impl_SizeOf.f k l) (szOf l) := by
  unfold impl_SizeOf.f szOf
  by_cases h : 3 < l.length
  · rw [if_pos h]; exact evPos (by omega) (Ev.now _)
  · rw [if_neg h]
    refine evNeg (by omega) ?_
    have := impl_SizeOf_l0 l h l.length 0 (by omega) (by simp [inR])
    simpa only [List.take_zero, prod, Int.ofNat_zero, Int.natCast_zero] using this

theorem impl_NumOk_eq (a : Int) : impl_NumOk.f a = some (okN a) := by
  unfold impl_NumOk.f; rw [impl_within_eq]; rfl

def p_ArrayOk1 (x : Int) : Bool := !okN x
theorem lit_ArrayOk1_eq (x : Int) : impl_ArrayOk_lit1.f x = some (p_ArrayOk1 x) := by
  unfold impl_ArrayOk_lit1.f; rw [impl_NumOk_eq]; rfl

theorem slices_IndexFunc_ArrayOk1_l0 (l : List Int) (hl : l.length ≤ 1048576) (d : Nat) : ∀ (i : Nat), i + d = l.length → (l.take i).all (fun x => !p_ArrayOk1 x) = true → ∃ r, Ev (fun k => slices_IndexFunc_ArrayOk1.l0 k l (l.length : Int) (i : Int)) r ∧ decide (r ≥ 0) = l.any p_ArrayOk1 := by
  induction d with
  | zero =>
    intro i hi ht
    refine ⟨-1, Ev.step (f := fun _ => some (-1)) (fun k => ?_) (Ev.now _), ?_⟩
    · simp only [slices_IndexFunc_ArrayOk1.l0]; rw [if_neg (by omega)]
    · have e : l.take i = l := List.take_of_length_le (by omega)
      rw [e] at ht
      symm; rw [show decide ((-1 : Int) ≥ 0) = false by decide, List.any_eq_false]
      intro x hx
      have := List.all_eq_true.1 ht x hx
      simpa using this
  | succ d ih =>
    intro i hi ht
    have hlt : i < l.length := by omega
    by_cases hx : p_ArrayOk1 l[i] = true
    · refine ⟨(i : Int), Ev.step (f := fun _ => some (i : Int)) (fun k => ?_) (Ev.now _), ?_⟩
      · simp only [slices_IndexFunc_ArrayOk1.l0]
        rw [if_pos (by omega), if_pos (by omega), if_pos (by omega), lit_ArrayOk1_eq, rdn l i hlt]; simp only [Option.bind_some]; rw [if_pos hx]
      · rw [decide_eq_true (by omega)]; symm; rw [List.any_eq_true]; exact ⟨_, List.getElem_mem hlt, hx⟩
    · obtain ⟨r, hr, h2⟩ := ih (i + 1) (by omega) (by rw [List.take_succ_eq_append_getElem hlt, List.all_append, ht]; simp [hx])
      refine ⟨r, Ev.step (f := fun k => slices_IndexFunc_ArrayOk1.l0 k l (l.length : Int) ((i + 1 : Nat) : Int)) (fun k => ?_) hr, h2⟩
      simp only [slices_IndexFunc_ArrayOk1.l0]
      rw [if_pos (by omega), if_pos (by omega), if_pos (by omega), lit_ArrayOk1_eq, rdn l i hlt]; simp only [Option.bind_some]; rw [if_neg hx, w64s i (by omega)]
theorem slices_ContainsFunc_ArrayOk1_ev (l : List Int) (hl : l.length ≤ 1048576) : Ev (fun k => slices_ContainsFunc_ArrayOk1.f k l) (l.any p_ArrayOk1) := by
  unfold slices_ContainsFunc_ArrayOk1.f slices_IndexFunc_ArrayOk1.f
  obtain ⟨r, hr, h⟩ := slices_IndexFunc_ArrayOk1_l0 l hl l.length 0 (by omega) (by simp)
  exact Ev.bind hr (evSome h)

theorem all_okN (d : List Int) : (!d.any p_ArrayOk1) = d.all okN := by
  rw [List.not_any_eq_all_not]; congr 1; funext x; simp [p_ArrayOk1]
theorem impl_ArrayOk_ev (s d : List Int) (hd : d.length ≤ 1048576) : Ev (fun k => impl_ArrayOk.f k s d) (arrayOk s d) := by
  unfold impl_ArrayOk.f arrayOk
  refine Ev.bind (impl_SizeOf_ev s) ?_
  by_cases h : (d.length : Int) = szOf s
  · exact evPos h (Ev.bind (slices_ContainsFunc_ArrayOk1_ev d hd) (evSome (by rw [all_okN, decide_eq_true h]; rfl)))
  · exact evNeg h (evSome (by rw [decide_eq_false h]; rfl))

theorem impl_copyArray_eq (s d : List Int) (hs : s.length ≤ 1048576) (hd : d.length ≤ 1048576) : impl_copyArray.f s d = some (s, d) := by
  unfold impl_copyArray.f
  rw [if_pos (by rw [List.length_nil]; omega), if_pos (by rw [List.length_nil]; omega)]; rfl

theorem impl_Rows_l0 (n : Int) (t d : List Int) (N M : Nat) (hn : n = (N : Int)) (hd : N * M = d.length) (hN : N ≤ 300) (hz : 0 < N → szOf t = (M : Int)) (h3 : d.length ≤ 300) (ht : t.length ≤ 2) (c : Nat) : ∀ (i : Nat) (o : List S26), i + c = N → o = (List.range i).map (row t d M) → Ev (fun k => impl_Rows.l0 k (szOf t) o (i : Int) (n :: t) d) (rowsN N t d M) := by
  induction c with
  | zero =>
    intro i o hi ho
    refine Ev.step (fun k => by rw [impl_Rows.l0]) ?_
    refine evPos (by simp only [List.length_cons]; omega) (evNeg ?_ (evSome ?_))
    · show ¬ (i : Int) < n; omega
    · rw [ho, show i = N by omega]; rfl
  | succ c ih =>
    intro i o hi ho
    have h1 : (i + 1) * M ≤ N * M := Nat.mul_le_mul_right _ (by omega)
    have h2 : (i + 1) * M = i * M + M := Nat.succ_mul i M
    have hol : o.length = i := by rw [ho]; simp
    refine Ev.step (fun k => by rw [impl_Rows.l0]) ?_
    refine evPos (by simp only [List.length_cons]; omega) (evPos ?_ (evPos (by simp only [List.length_cons]; omega) ?_))
    · show (i : Int) < n; omega
    rw [hz (by omega), w64s i (by omega), wmul i M (by omega), wmul (i + 1) M (by omega), Int.toNat_natCast, Int.toNat_natCast]
    refine evPos (by omega) (evPos (by omega) (evPos (by omega) (evBind0 (impl_copyArray_eq _ _ (by simp; omega) (by simp; omega)) ?_)))
    refine evPos (by omega) ?_
    rw [← hz (by omega)]
    exact ih (i + 1) _ (by omega) (by rw [ho, List.range_succ, List.map_append]; rfl)
theorem impl_Rows_ev (s d : List Int) (hd : d.length ≤ 1048576) : Ev (fun k => impl_Rows.f k s d) (rows s d) := by
  unfold impl_Rows.f
  refine Ev.bind (impl_ArrayOk_ev s d hd) ?_
  have hbad : Ev (fun k => impl_Rows.j0 k true s d) ([] : List S26) := Ev.step (fun k => by rw [impl_Rows.j0]) (evPos rfl (Ev.now _))
  cases s with
  | nil =>
    by_cases h : arrayOk [] d = true
    · exact evPos h hbad
    · exact evNeg h hbad
  | cons n t =>
    rw [rows_cons]
    by_cases h : arrayOk (n :: t) d = true
    · obtain ⟨f1, f2, f3, f4, f5, f6⟩ := rows_facts h
      rw [if_pos h]
      have e : (((n :: t).length : Int) == 0) = false := by
        rw [beq_eq_false_iff_ne]; simp only [List.length_cons]; omega
      refine evPos h ?_
      rw [e]
      refine Ev.step (fun k => by rw [impl_Rows.j0]) ?_
      refine evNeg (by simp) (evPos (by simp only [List.length_cons]; omega) (Ev.bind (impl_SizeOf_ev t) ?_))
      exact impl_Rows_l0 n t d n.toNat (prod t).toNat (Int.toNat_of_nonneg f1).symm f2 f3 f4 f5 f6 n.toNat 0 [] (by omega) rfl
    · rw [if_neg h]; exact evNeg h hbad

theorem impl_joined_l0 (rs : List S26) (s : List Int) (M : Nat) (hM : ∀ r ∈ rs, r.f1.length = M) (hl : rs.length * M ≤ 1048576) (h3 : rs.length ≤ 1048576) (n : Nat) : ∀ (i : Nat), i + n = rs.length → Ev (fun k => impl_joined.l0 k rs (rs.length : Int) (i : Int) s (flat (rs.take i))) (if arrayOk s (flat rs) = true then (s, flat rs, 0) else ([], [], 6)) := by
  have hf : (flat rs).length ≤ 1048576 := by rw [flat_len M rs hM]; omega
  induction n with
  | zero =>
    intro i hi
    rw [List.take_of_length_le (by omega)]
    refine Ev.step (fun k => by rw [impl_joined.l0]) ?_
    refine evNeg (by omega) (Ev.bind (impl_ArrayOk_ev s (flat rs) hf) ?_)
    by_cases h : arrayOk s (flat rs) = true
    · exact evEq (evPos h (Ev.now _)) (if_pos h).symm
    · exact evEq (evNeg h (Ev.now _)) (if_neg h).symm
  | succ n ih =>
    intro i hi
    have hlt : i < rs.length := by omega
    have ih' := ih (i + 1) (by omega)
    rw [flat_take rs i hlt] at ih'
    have h1 := flat_len M (rs.take i) (fun r hr => hM r (List.mem_of_mem_take hr))
    rw [List.length_take, Nat.min_eq_left (by omega)] at h1
    have h2 : i * M ≤ rs.length * M := Nat.mul_le_mul_right _ (by omega)
    have h4 : M ≤ rs.length * M := Nat.le_mul_of_pos_left _ (by omega)
    have h5 := hM rs[i] (List.getElem_mem hlt)
    refine Ev.step (fun k => by rw [impl_joined.l0]) ?_
    refine evPos (by omega) (evPos (by omega) (evPos (by omega) ?_))
    rw [rdT rs i hlt, w64s i (by omega)]
    exact evPos (by omega) ih'
theorem impl_joined_evG (rs : List S26) (t : List Int) (M : Nat) (hM : ∀ r ∈ rs, r.f1.length = M) (hl : rs.length * M ≤ 1048576) (h3 : rs.length ≤ 1048576) (ht : t.length ≤ 300) : Ev (fun k => impl_joined.f k rs t) (if arrayOk ((rs.length : Int) :: t) (flat rs) = true then ((rs.length : Int) :: t, flat rs, 0) else ([], [], 6)) := by
  unfold impl_joined.f
  refine evLet ?_
  refine evPos (by simp only [List.length_cons, List.length_nil]; omega) ?_
  exact impl_joined_l0 rs ((rs.length : Int) :: t) M hM hl h3 rs.length 0 (by omega)
theorem impl_joined_ev (rs : List S26) (t : List Int) (M : Nat) (hM : ∀ r ∈ rs, r.f1.length = M) (hl : rs.length * M ≤ 300) (h3 : rs.length ≤ 300) (ht : t.length ≤ 300) : Ev (fun k => impl_joined.f k rs t) (if arrayOk ((rs.length : Int) :: t) (flat rs) = true then ((rs.length : Int) :: t, flat rs, 0) else ([], [], 6)) := impl_joined_evG rs t M hM (by omega) (by omega) ht

theorem impl_Turn_ev (a b : List Int) (ha : a.length ≤ 1048576) (hb : b.length ≤ 1048576) : Ev (fun k => impl_Turn.f k a b) (turn a b) := by
  unfold impl_Turn.f turn
  refine Ev.bind (impl_ArrayOk_ev a b hb) ?_
  by_cases h : arrayOk a b = true
  · rw [if_pos h]
    refine evPos h ?_
    cases a with
    | nil => exact evPos rfl (evBind0 (impl_copyArray_eq [] b ha hb) (Ev.now _))
    | cons m t =>
      obtain ⟨f1, f2, f3, f4, f5, f6⟩ := rows_facts h
      refine evNeg (by simp only [List.length_cons]; omega) (Ev.bind (impl_Rows_ev (m :: t) b hb) ?_)
      rw [rows_cons, if_pos h]
      refine evPos (by simp only [List.length_cons]; omega) ?_
      rw [List.drop_succ_cons, List.drop_zero]
      have hj := impl_joined_ev (revR m t b) t (prod t).toNat (revR_row f2) (by rw [revR_length, f2]; omega) (by rw [revR_length]; omega) (by omega)
      rw [revR_length, Int.toNat_of_nonneg f1, if_pos (rev_flat_ok h).1] at hj
      exact Ev.bind hj (Ev.now _)
  · rw [if_neg h]
    exact evNeg h (Ev.now _)

theorem spec_l1In_eq (a b c : Int) : spec_l1In.f a b c = some (decide (b ≤ a ∧ a ≤ c)) := by
  unfold spec_l1In.f
  by_cases h : a ≥ b
  · rw [if_pos h]; congr 1; rw [Bool.eq_iff_iff, decide_eq_true_iff, decide_eq_true_iff]; omega
  · rw [if_neg h]; congr 1; symm; rw [decide_eq_false_iff_not]; omega

theorem spec_SizeOf_l1 (l : List Int) (hl : ¬ 3 < l.length) (z : Bool) (hr : inR l = true) (hz : z = true → prod l = 0) (d : Nat) : ∀ (i : Nat), i + d = l.length → Ev (fun k => spec_SizeOf.l1 k l z (prod (l.take i)) (i : Int)) (if prod l > 300 then -1 else prod l) := by
  induction d with
  | zero =>
    intro i hi
    have e : l.take i = l := List.take_of_length_le (by omega)
    rw [e]
    refine Ev.step (f := fun _ => some (if prod l > 300 then -1 else prod l)) (fun k => ?_) (Ev.now _)
    simp only [spec_SizeOf.l1]; rw [if_neg (by omega)]
    by_cases h : prod l > 300
    · rw [if_pos h, if_pos h]
      rw [if_neg (by intro hh; have := hz hh; omega)]
    · rw [if_neg h, if_neg h]
  | succ d ih =>
    intro i hi
    have hlt : i < l.length := by omega
    have hr' := inR_take (i + 1) hr
    refine Ev.step (f := fun k => spec_SizeOf.l1 k l z (prod (l.take (i + 1))) ((i + 1 : Nat) : Int)) (fun k => ?_) (ih (i + 1) (by omega))
    simp only [spec_SizeOf.l1]
    have hp := prod_take_le l (i + 1) hl hr'
    rw [if_pos (by omega), if_pos (by omega), rdn l i hlt, w64s i (by omega), ← prod_take_succ l i hlt, w64 (by omega) (by omega)]
theorem prod_zero (l : List Int) (h : l.any (· == 0) = true) : prod l = 0 := by
  induction l with
  | nil => simp at h
  | cons a l ih =>
    rw [List.any_cons, Bool.or_eq_true] at h
    rcases h with h | h
    · have : a = 0 := by simpa using h
      rw [prod, this, Int.zero_mul]
    · rw [prod, ih h, Int.mul_zero]
theorem spec_SizeOf_l0 (l : List Int) (hl : ¬ 3 < l.length) (d : Nat) : ∀ (i : Nat) (z : Bool), i + d = l.length → inR (l.take i) = true → z = (l.take i).any (· == 0) → Ev (fun k => spec_SizeOf.l0 k l z (i : Int)) (if inR l = true then (if prod l > 300 then -1 else prod l) else -1) := by
  induction d with
  | zero =>
    intro i z hi hr hz
    have e : l.take i = l := List.take_of_length_le (by omega)
    rw [e] at hr hz
    rw [if_pos hr]
    refine Ev.step (f := fun k => spec_SizeOf.l1 k l z 1 0) (fun k => ?_) ?_
    · simp only [spec_SizeOf.l0]; rw [if_neg (by omega)]
    · exact spec_SizeOf_l1 l hl z hr (fun h => prod_zero l (by rw [← hz]; exact h)) l.length 0 (by omega)
  | succ d ih =>
    intro i z hi hr hz
    have hlt : i < l.length := by omega
    by_cases hx : 0 ≤ l[i] ∧ l[i] ≤ 300
    · have hr' := (inR_take_succ l i hlt).2 ⟨hr, hx⟩
      refine Ev.step (f := fun k => spec_SizeOf.l0 k l ((l.take (i + 1)).any (· == 0)) ((i + 1 : Nat) : Int)) (fun k => ?_) (ih (i + 1) _ (by omega) hr' rfl)
      simp only [spec_SizeOf.l0]
      rw [if_pos (by omega), if_pos (by omega), spec_l1In_eq, rdn l i hlt, decide_eq_true hx]
      simp only [Option.bind_some, if_true]
      rw [w64s i (by omega), List.take_succ_eq_append_getElem hlt, List.any_append, ← hz]
      cases z with
      | true => simp
      | false => simp
    · rw [if_neg (by rw [inR_not i hlt hx]; simp)]
      refine Ev.step (f := fun _ => some (-1)) (fun k => ?_) (Ev.now _)
      simp only [spec_SizeOf.l0]
      rw [if_pos (by omega), if_pos (by omega), spec_l1In_eq, rdn l i hlt, decide_eq_false hx]
      rfl
theorem spec_SizeOf_ev (l : List Int) : Ev (fun k => spec_SizeOf.f k l) (szOf l) := by
  unfold spec_SizeOf.f szOf
  by_cases h : 3 < l.length
  · rw [if_pos h]; exact evPos (by omega) (Ev.now _)
  · rw [if_neg h]
    refine evNeg (by omega) ?_
    exact spec_SizeOf_l0 l h l.length 0 false (by omega) (by simp [inR]) (by simp)

theorem spec_NumOk_eq (a : Int) : spec_NumOk.f a = some (okN a) := by
  unfold spec_NumOk.f; rw [spec_l1In_eq]; rfl

theorem spec_ArrayOk_l0 (s l : List Int) (hl : l.length ≤ 1048576) (d : Nat) : ∀ (i : Nat), i + d = l.length → (l.take i).all okN = true → Ev (fun k => spec_ArrayOk.l0 k (i : Int) s l) (l.all okN) := by
  induction d with
  | zero =>
    intro i hi ht
    refine Ev.step (f := fun _ => some true) (fun k => ?_) (evSome ?_)
    · simp only [spec_ArrayOk.l0]; rw [if_neg (by omega)]
    · rw [List.take_of_length_le (by omega)] at ht; exact ht.symm
  | succ d ih =>
    intro i hi ht
    have hlt : i < l.length := by omega
    by_cases hx : okN l[i] = true
    · refine Ev.step (f := fun k => spec_ArrayOk.l0 k ((i + 1 : Nat) : Int) s l) (fun k => ?_) (ih (i + 1) (by omega) (by rw [List.take_succ_eq_append_getElem hlt, List.all_append, ht]; simp [hx]))
      simp only [spec_ArrayOk.l0]
      rw [if_pos (by omega), if_pos (by omega), spec_NumOk_eq, rdn l i hlt]; simp only [Option.bind_some]; rw [if_pos hx, w64s i (by omega)]
    · refine Ev.step (f := fun _ => some false) (fun k => ?_) (evSome ?_)
      · simp only [spec_ArrayOk.l0]
        rw [if_pos (by omega), if_pos (by omega), spec_NumOk_eq, rdn l i hlt]; simp only [Option.bind_some]; rw [if_neg hx]
      · symm; rw [List.all_eq_false]; exact ⟨_, List.getElem_mem hlt, hx⟩
theorem spec_ArrayOk_ev (s d : List Int) (hd : d.length ≤ 1048576) : Ev (fun k => spec_ArrayOk.f k s d) (arrayOk s d) := by
  unfold spec_ArrayOk.f arrayOk
  refine Ev.bind (spec_SizeOf_ev s) ?_
  by_cases h : szOf s = (d.length : Int)
  · refine evPos h (evEq (spec_ArrayOk_l0 s d hd d.length 0 (by omega) (by simp)) ?_)
    rw [decide_eq_true h.symm]; rfl
  · exact evNeg h (evSome (by rw [decide_eq_false (fun e => h e.symm)]; rfl))

theorem spec_l3Rows_l0 (n : Int) (t d : List Int) (N M : Nat) (hn : n = (N : Int)) (hd : N * M = d.length) (hN : N ≤ 300) (hz : 0 < N → szOf t = (M : Int)) (h3 : d.length ≤ 300) (ht : t.length ≤ 2) (c : Nat) : ∀ (i : Nat) (o : List S26), i + c = N → o = (List.range i).map (row t d M) → Ev (fun k => spec_l3Rows.l0 k o (szOf t) (i : Int) (n :: t) d) (rowsN N t d M) := by
  induction c with
  | zero =>
    intro i o hi ho
    refine Ev.step (fun k => by rw [spec_l3Rows.l0]) ?_
    refine evPos (by simp only [List.length_cons]; omega) (evNeg ?_ (evSome ?_))
    · show ¬ (i : Int) < n; omega
    · rw [ho, show i = N by omega]; rfl
  | succ c ih =>
    intro i o hi ho
    have h1 : (i + 1) * M ≤ N * M := Nat.mul_le_mul_right _ (by omega)
    have h2 : (i + 1) * M = i * M + M := Nat.succ_mul i M
    have hol : o.length = i := by rw [ho]; simp
    have hiN : (i : Int) < n := by omega
    have hL : t.length < 17592186044416 := by omega
    have hO : o.length < 2932031007402 := by omega
    have hN0 : 0 < N := by omega
    have hM1 : i * M ≤ 1048576 := by omega
    have q1 : (0 : Int) ≤ ((i * M : Nat) : Int) := by omega
    have q2 : ((i * M : Nat) : Int) ≤ (((i + 1) * M : Nat) : Int) := by omega
    have q3 : (((i + 1) * M : Nat) : Int) ≤ (d.length : Int) := by omega
    have q4 : (i + 1) * M - i * M < 17592186044416 := by omega
    have q5 : (i + 1) * M ≤ d.length := by omega
    have q6 : wrap64 ((i : Int) + 1) = ((i + 1 : Nat) : Int) ∧ (i + 1) + c = N := ⟨w64s i (by omega), by omega⟩
    have hw : wrap64 (((i * M : Nat) : Int) + (M : Int)) = (((i + 1) * M : Nat) : Int) := by
      rw [h2] at h1 ⊢
      rw [w64 (by omega) (by omega), Int.natCast_add]
    have e1 : wrap64 ((i : Int) * szOf t) = ((i * M : Nat) : Int) := by rw [hz hN0, wmul i M hM1]
    have e2 : wrap64 (wrap64 ((i : Int) * szOf t) + szOf t) = (((i + 1) * M : Nat) : Int) := by rw [e1, hz hN0, hw]
    refine Ev.step (fun k => by rw [spec_l3Rows.l0]) ?_
    simp only [Option.bind_some, List.length_nil, List.nil_append, Nat.zero_add, List.drop_succ_cons, List.drop_zero]
    refine evPos (by simp only [List.length_cons]; exact Int.natCast_pos.2 (Nat.succ_pos _)) ?_
    refine evPos (show (i : Int) < n from hiN) ?_
    refine evPos (by simp only [List.length_cons]; exact Int.natCast_pos.2 (Nat.succ_pos _)) ?_
    refine evPos hL ?_
    refine evPos (by rw [e1]; exact q1) ?_
    refine evPos (by rw [e2, e1]; exact q2) ?_
    refine evPos (by rw [e2]; exact q3) ?_
    refine evPos (by rw [e2, e1, Int.toNat_natCast, Int.toNat_natCast, List.length_drop, List.length_take, Nat.min_eq_left q5]; exact q4) ?_
    refine evPos hO ?_
    rw [e2, e1, Int.toNat_natCast, Int.toNat_natCast, q6.1]
    exact ih (i + 1) _ q6.2 (by rw [ho, List.range_succ, List.map_append]; rfl)
theorem spec_l3Rows_ev (n : Int) (t d : List Int) (h : arrayOk (n :: t) d = true) : Ev (fun k => spec_l3Rows.f k (n :: t) d) (rowsN n.toNat t d (prod t).toNat) := by
  obtain ⟨f1, f2, f3, f4, f5, f6⟩ := rows_facts h
  unfold spec_l3Rows.f
  refine evPos (by simp only [List.length_cons]; omega) (Ev.bind (spec_SizeOf_ev t) ?_)
  exact spec_l3Rows_l0 n t d n.toNat (prod t).toNat (Int.toNat_of_nonneg f1).symm f2 f3 f4 f5 f6 n.toNat 0 [] (by omega) rfl

theorem spec_l3Copy_eq (s d : List Int) (hs : s.length ≤ 1048576) (hd : d.length ≤ 1048576) : spec_l3Copy.f s d = some (s, d) := by
  unfold spec_l3Copy.f
  rw [Option.bind_some, if_pos (by rw [List.length_nil]; omega), Option.bind_some, if_pos (by rw [List.length_nil]; omega)]; rfl

theorem spec_l5Rows_l0 (rs : List S26) (s : List Int) (M : Nat) (hM : ∀ r ∈ rs, r.f1.length = M) (hl : rs.length * M ≤ 300) (h3 : rs.length ≤ 300) (n : Nat) : ∀ (i : Nat), i + n = rs.length → Ev (fun k => spec_l5Rows.l0 k rs (i : Int) s (flat (rs.take i))) (s, flat rs) := by
  induction n with
  | zero =>
    intro i hi
    rw [List.take_of_length_le (by omega)]
    refine Ev.step (fun k => by rw [spec_l5Rows.l0]) ?_
    exact evNeg (by omega) (Ev.now _)
  | succ n ih =>
    intro i hi
    have hlt : i < rs.length := by omega
    have ih' := ih (i + 1) (by omega)
    rw [flat_take rs i hlt] at ih'
    have h1 := flat_len M (rs.take i) (fun r hr => hM r (List.mem_of_mem_take hr))
    rw [List.length_take, Nat.min_eq_left (by omega)] at h1
    have h2 : i * M ≤ rs.length * M := Nat.mul_le_mul_right _ (by omega)
    have h4 : M ≤ rs.length * M := Nat.le_mul_of_pos_left _ (by omega)
    have h5 := hM rs[i] (List.getElem_mem hlt)
    refine Ev.step (fun k => by rw [spec_l5Rows.l0]) ?_
    refine evPos (by omega) (evPos (by omega) ?_)
    rw [rdT rs i hlt, w64s i (by omega)]
    exact evPos (by omega) ih'
theorem spec_l5Rows_ev (rs : List S26) (t : List Int) (M : Nat) (hM : ∀ r ∈ rs, r.f1.length = M) (hl : rs.length * M ≤ 300) (h3 : rs.length ≤ 300) (ht : t.length ≤ 300) : Ev (fun k => spec_l5Rows.f k rs t) ((rs.length : Int) :: t, flat rs) := by
  unfold spec_l5Rows.f
  refine evLet ?_
  refine evPos (by simp only [List.length_cons, List.length_nil]; omega) ?_
  exact spec_l5Rows_l0 rs ((rs.length : Int) :: t) M hM hl h3 rs.length 0 (by omega)

theorem spec_Turn_l0 (m : Int) (t d : List Int) (h : arrayOk (m :: t) d = true) : ∀ (i : Nat) (o : List S26), i ≤ m.toNat → o = ((rowsN m.toNat t d (prod t).toNat).drop i).reverse → Ev (fun k => spec_Turn.l0 k (rowsN m.toNat t d (prod t).toNat) o ((i : Int) - 1) (m :: t) d) (m :: t, flat (revR m t d), 0)
  | 0, o, _, ho => by
    obtain ⟨f1, f2, f3, f4, f5, f6⟩ := rows_facts h
    rw [List.drop_zero] at ho
    refine Ev.step (fun k => by rw [spec_Turn.l0]) ?_
    refine evNeg (by omega) (evPos (by simp only [List.length_cons]; omega) ?_)
    rw [ho, List.drop_succ_cons, List.drop_zero]
    have hj := spec_l5Rows_ev (revR m t d) t (prod t).toNat (revR_row f2) (by rw [revR_length, f2]; omega) (by rw [revR_length]; omega) (by omega)
    rw [revR_length, Int.toNat_of_nonneg f1] at hj
    exact Ev.bind hj (Ev.now _)
  | i + 1, o, hi, ho => by
    obtain ⟨f1, f2, f3, f4, f5, f6⟩ := rows_facts h
    have hr := rowsN_length m.toNat t d (prod t).toNat
    have hlt : i < (rowsN m.toNat t d (prod t).toNat).length := by omega
    have hol : o.length ≤ 300 := by rw [ho, List.length_reverse, List.length_drop]; omega
    have e1 : ((i + 1 : Nat) : Int) - 1 = (i : Int) := by omega
    have ih := spec_Turn_l0 m t d h i (o ++ [rd_T26 (rowsN m.toNat t d (prod t).toNat) (i : Int)]) (by omega) (by rw [ho, rdT _ i hlt, List.drop_eq_getElem_cons hlt, List.reverse_cons])
    rw [e1]
    refine Ev.step (fun k => by rw [spec_Turn.l0]) ?_
    refine evPos (by omega) (evPos (by omega) (evPos (by omega) (evPos (by omega) ?_)))
    rw [w64 (x := (i : Int) - 1) (by omega) (by omega)]
    exact ih
theorem spec_Turn_ev (a b : List Int) (ha : a.length ≤ 1048576) (hb : b.length ≤ 1048576) : Ev (fun k => spec_Turn.f k a b) (turn a b) := by
  unfold spec_Turn.f turn
  refine Ev.bind (spec_ArrayOk_ev a b hb) ?_
  by_cases h : arrayOk a b = true
  · rw [if_pos h]
    refine evPos h ?_
    cases a with
    | nil => exact evPos rfl (evBind0 (spec_l3Copy_eq [] b ha hb) (Ev.now _))
    | cons m t =>
      obtain ⟨f1, f2, f3, f4, f5, f6⟩ := rows_facts h
      refine evNeg (by simp only [List.length_cons]; omega) (Ev.bind (spec_l3Rows_ev m t b h) ?_)
      rw [rowsN_length, w64 (x := (m.toNat : Int) - 1) (by omega) (by omega)]
      exact spec_Turn_l0 m t b h m.toNat [] (Nat.le_refl _) (by rw [List.drop_of_length_le (by rw [rowsN_length]; exact Nat.le_refl _)]; rfl)
  · rw [if_neg h]
    exact evNeg h (Ev.now _)

/-- The index of a place: the last number goes round the quickest; and what is left. -/
def idx : List Int → Int → List Int × Int
  | [], p => ([], p)
  | n :: s, p => ((idx s p).2 % n :: (idx s p).1, (idx s p).2 / n)
def indexOf (s : List Int) (p : Int) : List Int := if 0 ≤ p ∧ p ≤ szOf s - 1 then (idx s p).1 else []
theorem idx_length : ∀ (s : List Int) (p : Int), (idx s p).1.length = s.length
  | [], _ => rfl
  | n :: s, p => by simp [idx, idx_length s p]
theorem idx_le : ∀ (s : List Int) (p : Int), 0 ≤ p → (∀ n ∈ s, 0 < n) → 0 ≤ (idx s p).2 ∧ (idx s p).2 ≤ p
  | [], p, h, _ => ⟨h, Int.le_refl p⟩
  | n :: s, p, h, hp => by
    obtain ⟨h1, h2⟩ := idx_le s p h (fun m hm => hp m (List.mem_cons_of_mem _ hm))
    have hn := hp n (List.mem_cons_self ..)
    have h3 := Int.ediv_nonneg h1 (Int.le_of_lt hn)
    have h4 := Int.ediv_le_self n h1
    exact ⟨h3, Int.le_trans h4 h2⟩
theorem pos_of_prod : ∀ (l : List Int), inR l = true → 0 < prod l → ∀ n ∈ l, 0 < n
  | [], _, _, n, hn => by cases hn
  | a :: l, h, hp, n, hn => by
    obtain ⟨⟨h0, h1⟩, h2⟩ := inR_cons.1 h
    have hl := (prod_le l h2).1
    have ha : 0 < a := by
      rcases Int.lt_or_eq_of_le h0 with h | h
      · exact h
      · subst h; simp [prod] at hp
    have hl2 : 0 < prod l := by
      rcases Int.lt_or_eq_of_le hl with h | h
      · exact h
      · rw [prod, ← h, Int.mul_zero] at hp; exact absurd hp (Int.lt_irrefl 0)
    rcases List.mem_cons.1 hn with rfl | hn
    · exact ha
    · exact pos_of_prod l h2 hl2 n hn
theorem size_pos {s : List Int} {p : Int} (h : 0 ≤ p ∧ p ≤ szOf s - 1) : ¬ 3 < s.length ∧ inR s = true ∧ (∀ n ∈ s, 0 < n) ∧ p < prod s ∧ prod s ≤ 300 ∧ szOf s = prod s := by
  obtain ⟨h1, h2, h3, h4⟩ := szOf_nonneg (l := s) (by omega)
  exact ⟨h1, h2, pos_of_prod s h2 (by omega), by omega, h3, h4⟩
theorem tdivmod {q n : Int} (h : 0 ≤ q) : Int.tdiv q n = q / n ∧ Int.tmod q n = q % n := ⟨Int.tdiv_eq_ediv_of_nonneg h, Int.tmod_eq_emod_of_nonneg h⟩

theorem idx_snd : ∀ (s : List Int) (p : Int), (∀ n ∈ s, 0 < n) → (idx s p).2 = p / prod s
  | [], p, _ => by simp [idx, prod]
  | n :: s, p, h => by
    have h1 := idx_snd s p (fun m hm => h m (List.mem_cons_of_mem _ hm))
    have hp : 0 ≤ prod s := by
      have : ∀ (l : List Int), (∀ n ∈ l, 0 < n) → 0 ≤ prod l := by
        intro l
        induction l with
        | nil => intro _; decide
        | cons a l ih => intro hl; exact Int.mul_nonneg (Int.le_of_lt (hl a (List.mem_cons_self ..))) (ih (fun m hm => hl m (List.mem_cons_of_mem _ hm)))
      exact this s (fun m hm => h m (List.mem_cons_of_mem _ hm))
    show (idx s p).2 / n = p / (n * prod s)
    rw [h1, Int.ediv_ediv_of_nonneg hp, Int.mul_comm (prod s) n]
theorem placeGo_idx : ∀ (s : List Int) (p a : Int), (∀ n ∈ s, 0 < n) → placeGo a s (idx s p).1 = a * prod s + p - (idx s p).2 * prod s
  | [], p, a, _ => by simp [idx, prod, placeGo]
  | n :: s, p, a, h => by
    have hn := h n (List.mem_cons_self ..)
    have h0 := Int.emod_nonneg (idx s p).2 (show n ≠ 0 by omega)
    have h1 := Int.emod_lt_of_pos (idx s p).2 hn
    show (if 0 ≤ (idx s p).2 % n ∧ (idx s p).2 % n ≤ n - 1 then placeGo (a * n + (idx s p).2 % n) s (idx s p).1 else -1) = a * (n * prod s) + p - (idx s p).2 / n * (n * prod s)
    rw [if_pos (by omega), placeGo_idx s p _ (fun m hm => h m (List.mem_cons_of_mem _ hm))]
    have h2 := Int.mul_ediv_add_emod (idx s p).2 n
    generalize (idx s p).2 = q at *
    generalize prod s = P at *
    generalize hr : q % n = r at *
    generalize ht : q / n = t at *
    have e1 : (a * n + r) * P = a * (n * P) + r * P := by rw [Int.add_mul, Int.mul_assoc]
    have e2 : q * P = t * (n * P) + r * P := by rw [← h2, Int.add_mul, Int.mul_assoc, Int.mul_left_comm]
    rw [e1, e2]; omega
theorem place_index {s : List Int} {p : Int} (h : 0 ≤ p ∧ p ≤ szOf s - 1) : placeOf s (indexOf s p) = p := by
  obtain ⟨h1, h2, h3, h4, h5, h6⟩ := size_pos h
  unfold placeOf indexOf
  rw [if_pos h, if_pos ⟨by omega, idx_length s p⟩, placeGo_idx s p 0 h3, idx_snd s p h3, Int.ediv_eq_zero_of_lt h.1 h4]
  omega
theorem idx_placeGo : ∀ (s x : List Int) (a : Int), s.length = x.length → 0 ≤ a → placeGo a s x ≥ 0 → idx s (placeGo a s x) = (x, a)
  | [], [], a, _, _, _ => by simp [placeGo, idx]
  | [], _ :: _, _, hl, _, _ => by simp at hl
  | _ :: _, [], _, hl, _, _ => by simp at hl
  | n :: s, i :: x, a, hl, h0, h => by
    unfold placeGo at h ⊢
    by_cases hx : 0 ≤ i ∧ i ≤ n - 1
    · rw [if_pos hx] at h ⊢
      have hm := Int.mul_nonneg h0 (show 0 ≤ n by omega)
      have ih := idx_placeGo s x (a * n + i) (by simpa using hl) (by omega) h
      have e1 : (a * n + i) % n = i := by rw [Int.add_comm, Int.add_mul_emod_self_right, Int.emod_eq_of_lt hx.1 (by omega)]
      have e2 : (a * n + i) / n = a := by rw [Int.add_comm, Int.add_mul_ediv_right _ _ (by omega), Int.ediv_eq_zero_of_lt hx.1 (by omega), Int.zero_add]
      show ((idx s (placeGo (a * n + i) s x)).2 % n :: (idx s (placeGo (a * n + i) s x)).1, (idx s (placeGo (a * n + i) s x)).2 / n) = _
      rw [ih]; dsimp only; rw [e1, e2]
    · rw [if_neg hx] at h; omega
theorem placeGo_le : ∀ (s x : List Int) (a : Int), s.length = x.length → 0 ≤ a → placeGo a s x ≥ 0 → (∀ n ∈ s, 0 ≤ n) → placeGo a s x < (a + 1) * prod s
  | [], [], a, _, h0, _, _ => by simp [placeGo, prod]; omega
  | [], _ :: _, _, hl, _, _, _ => by simp at hl
  | _ :: _, [], _, hl, _, _, _ => by simp at hl
  | n :: s, i :: x, a, hl, h0, h, hn => by
    unfold placeGo at h ⊢
    by_cases hx : 0 ≤ i ∧ i ≤ n - 1
    · rw [if_pos hx] at h ⊢
      have hm := Int.mul_nonneg h0 (show 0 ≤ n by omega)
      have hp : 0 ≤ prod s := by
        have : ∀ (l : List Int), (∀ n ∈ l, 0 ≤ n) → 0 ≤ prod l := by
          intro l
          induction l with
          | nil => intro _; decide
          | cons a l ih => intro hl; exact Int.mul_nonneg (hl a (List.mem_cons_self ..)) (ih (fun m hm => hl m (List.mem_cons_of_mem _ hm)))
        exact this s (fun m hm => hn m (List.mem_cons_of_mem _ hm))
      refine Int.lt_of_lt_of_le (placeGo_le s x (a * n + i) (by simpa using hl) (by omega) h (fun m hm => hn m (List.mem_cons_of_mem _ hm))) ?_
      rw [prod, ← Int.mul_assoc]
      refine Int.mul_le_mul_of_nonneg_right ?_ hp
      rw [Int.add_mul, Int.one_mul]; omega
    · rw [if_neg hx] at h; omega
theorem index_place {s x : List Int} (h : placeOf s x ≥ 0) : indexOf s (placeOf s x) = x := by
  unfold placeOf at h ⊢
  by_cases hc : szOf s ≥ 0 ∧ x.length = s.length
  · rw [if_pos hc] at h ⊢
    obtain ⟨h1, h2, h3, h4⟩ := szOf_nonneg hc.1
    have hn : ∀ n ∈ s, 0 ≤ n := fun n hm => by
      have := List.all_eq_true.1 h2 n hm; have := of_decide_eq_true this; omega
    have h5 := placeGo_le s x 0 hc.2.symm (by omega) h hn
    rw [Int.zero_add, Int.one_mul] at h5
    unfold indexOf
    rw [if_pos (by omega), idx_placeGo s x 0 hc.2.symm (by omega) h]
  · rw [if_neg hc] at h; omega

def okx (n i : Int) : Bool := decide (0 ≤ i ∧ i ≤ n - 1)
theorem placeGo_nn : ∀ (s x : List Int) (a : Int), s.length = x.length → 0 ≤ a → (placeGo a s x ≥ 0 ↔ (List.zipWith okx s x).all id = true)
  | [], [], a, _, h0 => by simp [placeGo]; exact h0
  | [], _ :: _, _, hl, _ => by simp at hl
  | _ :: _, [], _, hl, _ => by simp at hl
  | n :: s, i :: x, a, hl, h0 => by
    unfold placeGo
    rw [List.zipWith_cons_cons, List.all_cons, Bool.and_eq_true]
    by_cases hx : 0 ≤ i ∧ i ≤ n - 1
    · have hm := Int.mul_nonneg h0 (show 0 ≤ n by omega)
      rw [if_pos hx, placeGo_nn s x (a * n + i) (by simpa using hl) (by omega)]
      exact ⟨fun h => ⟨decide_eq_true hx, h⟩, fun h => h.2⟩
    · rw [if_neg hx]
      exact ⟨fun h => by omega, fun h => absurd (of_decide_eq_true (p := 0 ≤ i ∧ i ≤ n - 1) h.1) hx⟩
theorem prod_reverse : ∀ (s : List Int), prod s.reverse = prod s
  | [] => rfl
  | n :: s => by rw [List.reverse_cons, prod_append, prod_reverse s]; simp [prod, Int.mul_comm]
theorem szOf_reverse (s : List Int) : szOf s.reverse = szOf s := by
  unfold szOf inR; rw [List.length_reverse, List.all_reverse, prod_reverse]
/-- Where the number at a place of the flipped array comes from. -/
def src (s : List Int) (q : Int) : Int := placeOf s (indexOf s.reverse q).reverse
theorem src_facts {s : List Int} {q : Int} (h : 0 ≤ q ∧ q ≤ szOf s - 1) : 0 ≤ src s q ∧ src s q ≤ szOf s - 1 ∧ src s.reverse (src s q) = q ∧ (indexOf s.reverse q).length = s.length := by
  have hr : 0 ≤ q ∧ q ≤ szOf s.reverse - 1 := by rw [szOf_reverse]; exact h
  have hp := place_index hr
  have hl : (indexOf s.reverse q).length = s.length := by
    unfold indexOf; rw [if_pos hr, idx_length, List.length_reverse]
  obtain ⟨h1, h2, h3, h4⟩ := szOf_nonneg (l := s) (by omega)
  have hn : ∀ n ∈ s, 0 ≤ n := fun n hm => by
    have := List.all_eq_true.1 h2 n hm; have := of_decide_eq_true this; omega
  have h0 : src s q ≥ 0 ∧ src s q < szOf s := by
    have hp' : placeGo 0 s.reverse (indexOf s.reverse q) = q := by
      have := hp; unfold placeOf at this; rw [if_pos ⟨by rw [szOf_reverse]; omega, by rw [hl, List.length_reverse]⟩] at this; exact this
    have ha : (List.zipWith okx s.reverse (indexOf s.reverse q)).all id = true := (placeGo_nn _ _ 0 (by rw [hl, List.length_reverse]) (by omega)).1 (by rw [hp']; exact h.1)
    have hb : (List.zipWith okx s (indexOf s.reverse q).reverse).all id = true := by
      have e : List.zipWith okx s.reverse (indexOf s.reverse q).reverse.reverse = (List.zipWith okx s (indexOf s.reverse q).reverse).reverse := (List.reverse_zipWith (by rw [List.length_reverse, hl])).symm
      rw [List.reverse_reverse] at e
      rw [e, List.all_reverse] at ha; exact ha
    have hc := (placeGo_nn s (indexOf s.reverse q).reverse 0 (by rw [List.length_reverse, hl]) (by omega)).2 hb
    have hd := placeGo_le s (indexOf s.reverse q).reverse 0 (by rw [List.length_reverse, hl]) (by omega) hc hn
    unfold src placeOf
    rw [if_pos ⟨by omega, by rw [List.length_reverse, hl]⟩]
    exact ⟨hc, by omega⟩
  refine ⟨h0.1, by omega, ?_, hl⟩
  have e : indexOf s (src s q) = (indexOf s.reverse q).reverse := index_place (s := s) (x := (indexOf s.reverse q).reverse) h0.1
  show placeOf s.reverse (indexOf s.reverse.reverse (src s q)).reverse = q
  rw [List.reverse_reverse, e, List.reverse_reverse, hp]
def flip (s d : List Int) : List Int × List Int × Int := if arrayOk s d = true then (s.reverse, (List.range d.length).map (fun q : Nat => rd d (src s (q : Int))), 0) else ([], [], 1)
theorem slices_Reverse_ev (l : List Int) (h : l.length ≤ 3) : Ev (fun k => slices_Reverse_int_int.f k l) l.reverse := by
  unfold slices_Reverse_int_int.f
  have e0 : wrap64 0 = 0 := w64 (by omega) (by omega)
  have e1 : wrap64 (-1) = -1 := w64 (by omega) (by omega)
  have e2 : wrap64 1 = 1 := w64 (by omega) (by omega)
  have e3 : wrap64 2 = 2 := w64 (by omega) (by omega)
  refine ⟨3, fun k hk => ?_⟩
  obtain ⟨m, rfl⟩ : ∃ m, k = m + 3 := ⟨k - 3, by omega⟩
  rcases shape_cases (l := l) (by omega) with rfl | ⟨a, rfl⟩ | ⟨a, b, rfl⟩ | ⟨a, b, c, rfl⟩ <;> simp [slices_Reverse_int_int.l0, rd, e0, e1, e2, e3]

theorem impl_IndexOf_l0 (s : List Int) (p : Int) (hp : 0 ≤ p) (hp2 : p ≤ 1000) (hs : ¬ 3 < s.length) (hpos : ∀ n ∈ s, 0 < n) : ∀ (i : Nat) (m : List Int), i ≤ s.length → m.length = s.length → m.drop i = (idx (s.drop i) p).1 → Ev (fun k => impl_IndexOf.l0 k s (idx (s.drop i) p).2 m ((i : Int) - 1)) (idx s p).1 := by
  intro i
  induction i with
  | zero =>
    intro m _ hm ht
    refine Ev.step (f := fun _ => some m) (fun k => ?_) (evSome (by simpa using ht))
    simp only [impl_IndexOf.l0]; rw [if_neg (by omega)]
  | succ i ih =>
    intro m hi hm ht
    have hlt : i < s.length := by omega
    have hn : 0 < s[i] := hpos _ (List.getElem_mem hlt)
    obtain ⟨hq0, hq1⟩ := idx_le (s.drop (i + 1)) p hp (fun n hn => hpos n (List.mem_of_mem_drop hn))
    have e := List.drop_eq_getElem_cons hlt
    refine Ev.step (f := fun k => impl_IndexOf.l0 k s (idx (s.drop i) p).2 (m.set i ((idx (s.drop (i + 1)) p).2 % s[i])) ((i : Int) - 1)) (fun k => ?_) (ih (m.set i ((idx (s.drop (i + 1)) p).2 % s[i])) (by omega) (by rw [List.length_set, hm]) ?_)
    · simp only [impl_IndexOf.l0]
      have e1 : ((i + 1 : Nat) : Int) - 1 = (i : Int) := by omega
      rw [e1, if_pos (by omega), if_pos (by omega), if_pos (by omega), rdn s i hlt, if_neg (by omega), if_pos (by omega), (tdivmod hq0).1, (tdivmod hq0).2, Int.toNat_natCast]
      have h3 := Int.ediv_nonneg hq0 (Int.le_of_lt hn)
      have h4 := Int.ediv_le_self s[i] hq0
      rw [w64 (x := (idx (s.drop (i + 1)) p).2 / s[i]) (by omega) (by omega), w64 (x := (i : Int) - 1) (by omega) (by omega), e]
      rfl
    · rw [e, List.drop_eq_getElem_cons (by rw [List.length_set]; omega), List.getElem_set_self, List.drop_set_of_lt (by omega), ht]
      rfl
theorem impl_IndexOf_ev (s : List Int) (p : Int) : Ev (fun k => impl_IndexOf.f k s p) (indexOf s p) := by
  unfold impl_IndexOf.f indexOf
  refine Ev.bind (impl_SizeOf_ev s) ?_
  have hg := szOf_ge s
  refine evBind0 (by rw [impl_within_eq, w64 (by omega) (by omega)]) ?_
  by_cases h : 0 ≤ p ∧ p ≤ szOf s - 1
  · obtain ⟨h1, h2, h3, h4, h5, h6⟩ := size_pos h
    rw [if_pos h]
    refine evPos (by simpa using h) (evPos (by omega) (evPos (by omega) ?_))
    have := impl_IndexOf_l0 s p h.1 (by omega) h1 h3 s.length (List.replicate s.length 0) (Nat.le_refl _) (by simp) (by simp [idx])
    rw [w64 (by omega) (by omega)]
    simpa [idx] using this
  · rw [if_neg h]
    exact evNeg (by simpa using h) (Ev.now _)

theorem impl_ShapeOk_ev (l : List Int) : Ev (fun k => impl_ShapeOk.f k l) (decide (szOf l ≥ 0)) := by
  unfold impl_ShapeOk.f
  exact Ev.bind (impl_SizeOf_ev l) (Ev.now _)

theorem impl_PlaceOf_l0 (s x : List Int) (hs : ¬ 3 < s.length) (hr : inR s = true) (hx : x.length = s.length) (d : Nat) : ∀ (i : Nat) (a : Int), i + d = s.length → 0 ≤ a → a ≤ pb i → Ev (fun k => impl_PlaceOf.l0 k x a s (s.length : Int) (i : Int)) (placeGo a (s.drop i) (x.drop i)) := by
  induction d with
  | zero =>
    intro i a hi h0 h1
    have e : s.drop i = [] := List.drop_of_length_le (by omega)
    refine Ev.step (f := fun _ => some a) (fun k => ?_) (evSome ?_)
    · simp only [impl_PlaceOf.l0]; rw [if_neg (by omega)]
    · rw [e]; rfl
  | succ d ih =>
    intro i a hi h0 h1
    have hlt : i < s.length := by omega
    have hlt' : i < x.length := by omega
    rw [List.drop_eq_getElem_cons hlt, List.drop_eq_getElem_cons hlt']
    have hr1 := ((inR_take_succ s i hlt).1 (inR_take (i + 1) hr)).2
    have hp1 : pb i ≤ 28000000 := pb_le (by omega)
    have hq : wrap64 (s[i] - 1) = s[i] - 1 := by rw [w64] <;> omega
    unfold placeGo
    by_cases hx1 : 0 ≤ x[i] ∧ x[i] ≤ s[i] - 1
    · rw [if_pos hx1]
      have hm := mul300 h0 h1 hr1.1 hr1.2
      have hp2 : pb (i + 1) = 300 * pb i + 300 := rfl
      have hu : a * s[i] + x[i] ≤ pb (i + 1) := by omega
      refine Ev.step (f := fun k => impl_PlaceOf.l0 k x (a * s[i] + x[i]) s (s.length : Int) ((i + 1 : Nat) : Int)) (fun k => ?_) (ih (i + 1) _ (by omega) (by omega) hu)
      simp only [impl_PlaceOf.l0]
      rw [if_pos (by omega), if_pos (by omega), if_pos (by omega), if_pos (by omega), impl_within_eq, rdn x i hlt', rdn s i hlt, hq, decide_eq_true hx1]
      simp only [Option.bind_some, if_true]
      rw [w64s i (by omega), w64 (x := a * s[i]) (by omega) (by omega), w64 (by omega) (by omega)]
    · rw [if_neg hx1]
      refine Ev.step (f := fun _ => some (-1)) (fun k => ?_) (Ev.now _)
      simp only [impl_PlaceOf.l0]
      rw [if_pos (by omega), if_pos (by omega), if_pos (by omega), if_pos (by omega), impl_within_eq, rdn x i hlt', rdn s i hlt, hq, decide_eq_false hx1]
      rfl
theorem impl_PlaceOf_ev (s x : List Int) : Ev (fun k => impl_PlaceOf.f k s x) (placeOf s x) := by
  unfold impl_PlaceOf.f placeOf
  refine Ev.bind (impl_ShapeOk_ev s) ?_
  by_cases h1 : szOf s ≥ 0
  · refine evPos (by simpa using h1) ?_
    obtain ⟨hl, hr, _, _⟩ := szOf_nonneg h1
    by_cases h2 : x.length = s.length
    · rw [if_pos ⟨h1, h2⟩, show ((x.length : Int) != (s.length : Int)) = false by simp [h2]]
      refine Ev.step (f := fun k => impl_PlaceOf.l0 k x 0 s (s.length : Int) 0) (fun k => ?_) (impl_PlaceOf_l0 s x hl hr h2 s.length 0 0 (by omega) (by omega) (by simp [pb]))
      simp only [impl_PlaceOf.j0]; rw [if_neg (by simp)]
    · rw [if_neg (fun h => h2 h.2), show ((x.length : Int) != (s.length : Int)) = true by simp; omega]
      refine Ev.step (f := fun _ => some (-1)) (fun k => ?_) (Ev.now _)
      rw [impl_PlaceOf.j0]; exact if_pos rfl
  · refine evNeg (by simpa using h1) ?_
    rw [if_neg (fun h => h1 h.1)]
    refine Ev.step (f := fun _ => some (-1)) (fun k => ?_) (Ev.now _)
    rw [impl_PlaceOf.j0]; exact if_pos rfl

theorem impl_Flip_l0 (s d : List Int) (hd : (d.length : Int) = szOf s) (hs : s.length ≤ 3) (h300 : d.length ≤ 300) (n : Nat) : ∀ (i : Nat) (o : List Int), i + n = d.length → o.length = d.length → (∀ q : Nat, q < d.length → src s (q : Int) < (i : Int) → rd o (q : Int) = rd d (src s (q : Int))) → Ev (fun k => impl_Flip.l0 k d (d.length : Int) (i : Int) s d s.reverse o) (s.reverse, (List.range d.length).map (fun q : Nat => rd d (src s (q : Int))), 0) := by
  induction n with
  | zero =>
    intro i o hi ho hq
    refine Ev.step (f := fun _ => some (s.reverse, o, 0)) (fun k => ?_) (evSome ?_)
    · simp only [impl_Flip.l0]; rw [if_neg (by omega)]
    have e : o = (List.range d.length).map (fun q : Nat => rd d (src s (q : Int))) := by
      refine List.ext_getElem (by simp [ho]) fun q h1 h2 => ?_
      obtain ⟨f1, f2, f3, f4⟩ := src_facts (s := s) (q := (q : Int)) (by omega)
      have := hq q (by omega) (by omega)
      rw [rdn o q h1] at this
      rw [this]; simp
    rw [e]
  | succ n ih =>
    intro i o hi ho hq
    have hi2 : 0 ≤ (i : Int) ∧ (i : Int) ≤ szOf s.reverse - 1 := by rw [szOf_reverse]; omega
    obtain ⟨f1, f2, f3, f4⟩ := src_facts (s := s.reverse) (q := (i : Int)) hi2
    rw [List.reverse_reverse] at f3 f4
    rw [szOf_reverse] at f2
    rw [List.length_reverse] at f4
    refine Ev.step (f := fun k => (impl_IndexOf.f k s (i : Int)).bind fun t235 => ((slices_Reverse_int_int.f k t235).bind fun t238 => ((impl_PlaceOf.f k s.reverse t238).bind fun t239 => (if 0 ≤ t239 then (if t239 < (o.length : Int) then (impl_Flip.l0 k d (d.length : Int) ((i + 1 : Nat) : Int) s d s.reverse (o.set (t239 : Int).toNat (rd d (i : Int)))) else (none)) else (none))))) (fun k => ?_) (Ev.bind (impl_IndexOf_ev s i) (Ev.bind (slices_Reverse_ev _ (by omega)) (Ev.bind (impl_PlaceOf_ev s.reverse _) ?_)))
    · simp only [impl_Flip.l0]; rw [if_pos (by omega), if_pos (by omega), if_pos (by omega), w64s i (by omega)]
    have e : placeOf s.reverse (indexOf s (i : Int)).reverse = src s.reverse (i : Int) := by unfold src; rw [List.reverse_reverse]
    rw [e]
    obtain ⟨t, ht⟩ : ∃ t : Nat, src s.reverse (i : Int) = (t : Int) := ⟨_, (Int.toNat_of_nonneg f1).symm⟩
    rw [ht] at f3 f2 ⊢
    refine evPos (by omega) (evPos (by omega) (ih (i + 1) _ (by omega) (by rw [List.length_set, ho]) fun q hq1 hq2 => ?_))
    rw [rdn _ q (by rw [List.length_set]; omega), List.getElem_set, Int.toNat_natCast]
    by_cases hqt : t = q
    · subst hqt; rw [if_pos rfl, f3]
    · rw [if_neg hqt, ← rdn o q (by omega)]
      refine hq q hq1 ?_
      obtain ⟨g1, g2, g3, g4⟩ := src_facts (s := s) (q := (q : Int)) (by omega)
      rcases Int.lt_or_eq_of_le (show src s (q : Int) ≤ (i : Int) by omega) with h | h
      · exact h
      · rw [h, ht] at g3; omega
theorem impl_Flip_ev (s d : List Int) (hs : s.length ≤ 1048576) (hd : d.length ≤ 1048576) : Ev (fun k => impl_Flip.f k s d) (flip s d) := by
  unfold impl_Flip.f flip
  refine Ev.bind (impl_ArrayOk_ev s d hd) ?_
  by_cases h : arrayOk s d = true
  · obtain ⟨h1, h2, h3, h4, h5⟩ := arrayOk_t h
    refine evEq (evPos h (evBind0 (impl_copyArray_eq s d hs hd) (Ev.bind (slices_Reverse_ev s h4) (impl_Flip_l0 s d h1 h4 h3 d.length 0 d (by omega) rfl ?_)))) (if_pos h).symm
    intro q hq1 hq2
    obtain ⟨g1, g2, g3, g4⟩ := src_facts (s := s) (q := (q : Int)) (by omega)
    omega
  · exact evEq (evNeg h (Ev.now _)) (if_neg h).symm

theorem impl_single_ev (a b c d : List Int) (hb : b.length ≤ 1048576) (hd : d.length ≤ 1048576) : Ev (fun k => impl_single.f k a b c d) (if arrayOk a b = true ∧ arrayOk c d = true then (if b.length = 1 then (rd b 0, 0) else (0, 3)) else (0, 1)) := by
  unfold impl_single.f
  refine Ev.bind (impl_ArrayOk_ev a b hb) ?_
  have hbad : Ev (fun k => impl_single.j0 k true a b) (0, 1) := Ev.step (fun k => by rw [impl_single.j0]) (evPos rfl (Ev.now _))
  by_cases h1 : arrayOk a b = true
  · refine evPos h1 (Ev.bind (impl_ArrayOk_ev c d hd) ?_)
    by_cases h2 : arrayOk c d = true
    · rw [h2]
      refine evEq ?_ (if_pos (And.intro h1 rfl)).symm
      refine Ev.step (fun k => by rw [impl_single.j0]) (evNeg (by simp) ?_)
      by_cases h3 : b.length = 1
      · exact evEq (evPos (by omega) (evPos (by omega) (Ev.now _))) (if_pos h3).symm
      · exact evEq (evNeg (by omega) (Ev.now _)) (if_neg h3).symm
    · rw [Bool.eq_false_iff.2 h2]
      exact evEq hbad (if_neg (fun hh : _ ∧ _ => absurd hh.2 (by simp))).symm
  · exact evEq (evNeg h1 hbad) (if_neg (fun hh : _ ∧ _ => h1 hh.1)).symm

theorem impl_Rotate_l0 (m : Int) (t d : List Int) (n : Int) (h : arrayOk (m :: t) d = true) (hm : ¬ m = 0) (hn : -1000000000000 ≤ n ∧ n ≤ 1000000000000) (q : Nat) : ∀ (i : Nat) (o : List S26), i + q = m.toNat → o = (List.range i).map (fun j => row t d (prod t).toNat (rotI m.toNat n j)) → Ev (fun k => impl_Rotate.l0 k n (rowsN m.toNat t d (prod t).toNat) (m.toNat : Int) o (m.toNat : Int) (i : Int) (m :: t) d) (m :: t, flat (rotN m.toNat t d (prod t).toNat n), 0) := by
  obtain ⟨f1, f2, f3, f4, f5, f6⟩ := rows_facts h
  have hN : 0 < m.toNat := by omega
  have hr := rowsN_length m.toNat t d (prod t).toNat
  have hR := rotN_length m.toNat t d (prod t).toNat n
  have hA := (rot_flat_ok (n := n) h).1
  induction q with
  | zero =>
    intro i o hi ho
    have e : o = rotN m.toNat t d (prod t).toNat n := by rw [ho, show i = m.toNat by omega]; rfl
    refine Ev.step (fun k => by rw [impl_Rotate.l0]) ?_
    refine evNeg (by omega) (evPos (by simp only [List.length_cons]; omega) ?_)
    rw [e, List.drop_succ_cons, List.drop_zero]
    have hj := impl_joined_ev (rotN m.toNat t d (prod t).toNat n) t (prod t).toNat (rotN_row f2) (by rw [hR, f2]; omega) (by omega) (by omega)
    rw [hR, Int.toNat_of_nonneg f1, if_pos hA] at hj
    exact Ev.bind hj (Ev.now _)
  | succ q ih =>
    intro i o hi ho
    have hol : o.length = i := by rw [ho]; simp
    have hlt := rotI_lt m.toNat n i hN
    have ih' := ih (i + 1) (o ++ [row t d (prod t).toNat (rotI m.toNat n i)]) (by omega) (by rw [ho, List.range_succ, List.map_append]; rfl)
    refine Ev.step (fun k => by rw [impl_Rotate.l0]) ?_
    refine evPos (by omega) (evNeg (by omega) ?_)
    rw [rot_impl n m.toNat i hN f3 (by omega) hn, w64s i (by omega), rowsN_rd m.toNat t d (prod t).toNat _ hlt]
    exact evPos (by omega) (evPos (by omega) (evPos (by omega) ih'))
theorem impl_Rotate_ev (a b c d : List Int) (hb : b.length ≤ 1048576) (hc : c.length ≤ 1048576) (hd : d.length ≤ 1048576) : Ev (fun k => impl_Rotate.f k a b c d) (rotate a b c d) := by
  unfold impl_Rotate.f rotate
  refine Ev.bind (impl_single_ev a b c d hb hd) ?_
  by_cases h : arrayOk a b = true ∧ arrayOk c d = true
  · rw [if_pos h, if_pos h]
    by_cases h2 : b.length = 1
    · rw [if_pos h2, if_pos h2]
      refine evPos rfl (Ev.bind (impl_Rows_ev c d hd) ?_)
      cases c with
      | nil => exact evPos (by simp [rows]) (evBind0 (impl_copyArray_eq [] d hc hd) (Ev.now _))
      | cons m t =>
        obtain ⟨f1, f2, f3, f4, f5, f6⟩ := rows_facts h.2
        rw [rows_cons, if_pos h.2, rowsN_length]
        by_cases h3 : m = 0
        · exact evEq (evPos (by omega) (evBind0 (impl_copyArray_eq (m :: t) d hc hd) (Ev.now _))) (if_pos h3).symm
        · have hn : okN (rd b 0) = true := by
            rw [show (0 : Int) = ((0 : Nat) : Int) by rfl, rdn b 0 (by omega)]
            exact (arrayOk_t h.1).2.1 _ (List.getElem_mem (by omega))
          refine evEq (evNeg (by omega) ?_) (if_neg h3).symm
          exact impl_Rotate_l0 m t d (rd b 0) h.2 h3 (okN_t hn) m.toNat 0 [] (by omega) rfl
    · rw [if_neg h2, if_neg h2]
      exact evNeg (by decide) (Ev.now _)
  · rw [if_neg h, if_neg h]
    exact evNeg (by decide) (Ev.now _)

theorem laws_sameInts_l0 (l m : List Int) (hl : l.length ≤ 35184372088832) (hm : l.length = m.length) (d : Nat) : ∀ (i : Nat), i + d = l.length → Ev (fun k => laws_sameInts.l0 k l m (i : Int)) (decide (l.drop i = m.drop i)) := by
  induction d with
  | zero =>
    intro i hi
    refine Ev.step (f := fun _ => some (decide (l.drop i = m.drop i))) (fun k => ?_) (Ev.now _)
    simp only [laws_sameInts.l0]
    rw [if_neg (by omega), List.drop_of_length_le (by omega), List.drop_of_length_le (by omega)]; simp
  | succ d ih =>
    intro i hi
    have hlt : i < l.length := by omega
    have hlt' : i < m.length := by omega
    have e1 := List.drop_eq_getElem_cons hlt
    have e2 := List.drop_eq_getElem_cons hlt'
    by_cases hx : l[i] = m[i]
    · refine Ev.step (f := fun k => laws_sameInts.l0 k l m ((i + 1 : Nat) : Int)) (fun k => ?_) (evEq (ih (i + 1) (by omega)) ?_)
      · simp only [laws_sameInts.l0]
        rw [if_pos (by omega), if_pos (by omega), if_pos (by omega), rdn l i hlt, rdn m i hlt', if_pos hx, w64s i (by omega)]
      · rw [e1, e2, hx]; simp only [List.cons.injEq, true_and]
    · refine Ev.step (f := fun _ => some false) (fun k => ?_) (evSome ?_)
      · simp only [laws_sameInts.l0]
        rw [if_pos (by omega), if_pos (by omega), if_pos (by omega), rdn l i hlt, rdn m i hlt', if_neg hx]
      · rw [e1, e2]; symm; rw [decide_eq_false_iff_not]; intro h; exact hx (List.cons.inj h).1
theorem laws_sameInts_ev (l m : List Int) (hl : l.length ≤ 35184372088832) : Ev (fun k => laws_sameInts.f k l m) (decide (l = m)) := by
  unfold laws_sameInts.f
  by_cases h : l.length = m.length
  · refine evPos (by omega) ?_
    exact laws_sameInts_l0 l m hl h l.length 0 (by omega)
  · refine evNeg (by omega) (evSome ?_)
    symm; rw [decide_eq_false_iff_not]; intro e; exact h (by rw [e])
theorem laws_sameInts_rfl (l : List Int) (hl : l.length ≤ 35184372088832) : Ev (fun k => laws_sameInts.f k l l) true := evEq (laws_sameInts_ev l l hl) (by simp)

theorem laws_sameArray_rfl (a b : List Int) (ha : a.length ≤ 1048576) (hb : b.length ≤ 1048576) : Ev (fun k => laws_sameArray.f k a b a b) true := by
  unfold laws_sameArray.f
  exact Ev.bind (laws_sameInts_rfl a (by omega)) (evPos rfl (Ev.bind (laws_sameInts_rfl b (by omega)) (Ev.now _)))

theorem laws_big_eq (l : List Int) : laws_big.f l = some (decide ((l.length : Int) > 1048576)) := rfl

theorem and255 (x : Int) : 0 ≤ Go.bits .and .i64 x 255 ∧ Go.bits .and .i64 x 255 ≤ 255 := by
  have h : Go.bits .and .i64 x 255 = IntKind.i64.wrap (((BitVec.ofInt 64 x).toNat &&& 255 : Nat) : Int) := by
    simp only [Go.bits, BitVec.toNat_and]; rfl
  have h2 : (BitVec.ofInt 64 x).toNat &&& 255 ≤ 255 := Nat.and_le_right
  rw [h, IntKind.wrap_i64]; omega
/-- A cursor's place lies in its bytes. -/
def Cu (c : List Int) (i : Int) : Prop := 0 ≤ i ∧ i ≤ c.length
theorem spec_l1Byte_dr (c : List Int) (i h : Int) (hc : Cu c i) (hl : c.length ≤ 1048576) : ∃ x i' h', spec_l1Byte.f c i h = some (x, i', h') ∧ (0 ≤ x ∧ x ≤ 255) ∧ Cu c i' := by
  obtain ⟨h0, h1⟩ := hc
  unfold spec_l1Byte.f
  by_cases h2 : i < (c.length : Int)
  · rw [if_pos h2, if_pos h0, w64 (x := i + 1) (by omega) (by omega)]
    exact ⟨_, _, _, rfl, and255 _, by omega, by omega⟩
  · rw [if_neg h2]
    exact ⟨_, _, _, rfl, and255 _, h0, h1⟩
theorem spec_l1Below_dr (c : List Int) (i h n : Int) (hc : Cu c i) (hl : c.length ≤ 1048576) : ∃ x i' h', spec_l1Below.f c i h n = some (x, i', h') ∧ (0 ≤ x ∧ (x < n ∨ n ≤ 0 ∧ x = 0)) ∧ Cu c i' := by
  unfold spec_l1Below.f
  by_cases h1 : n ≤ 0
  · rw [if_pos h1]; exact ⟨_, _, _, rfl, ⟨by omega, .inr ⟨h1, rfl⟩⟩, hc⟩
  · rw [if_neg h1]
    by_cases h2 : n ≤ 256
    · obtain ⟨x, i', h', e, hx, hc'⟩ := spec_l1Byte_dr c i h hc hl
      rw [if_pos h2, e, Option.bind_some, if_neg (by omega)]
      have h3 := Int.tmod_eq_emod_of_nonneg (b := n) hx.1
      have h4 := Int.emod_nonneg x (show n ≠ 0 by omega)
      have h5 := Int.emod_lt_of_pos x (show 0 < n by omega)
      exact ⟨_, _, _, rfl, ⟨by rw [h3]; exact h4, .inl (by rw [h3]; exact h5)⟩, hc'⟩
    · obtain ⟨x, i1, h1', e1, hx, hc1⟩ := spec_l1Byte_dr c i h hc hl
      obtain ⟨y, i2, h2', e2, hy, hc2⟩ := spec_l1Byte_dr c i1 h1' hc1 hl
      obtain ⟨z, i3, h3', e3, hz, hc3⟩ := spec_l1Byte_dr c i2 h2' hc2 hl
      obtain ⟨u, i4, h4', e4, hu, hc4⟩ := spec_l1Byte_dr c i3 h3' hc3 hl
      rw [if_neg h2, e1, Option.bind_some]; dsimp only
      rw [e2, Option.bind_some]; dsimp only
      rw [e3, Option.bind_some]; dsimp only
      rw [e4, Option.bind_some]; dsimp only
      rw [if_neg (by omega), w64 (x := x * 16777216) (by omega) (by omega), w64 (x := y * 65536) (by omega) (by omega), w64 (x := x * 16777216 + y * 65536) (by omega) (by omega), w64 (x := z * 256) (by omega) (by omega), w64 (x := x * 16777216 + y * 65536 + z * 256) (by omega) (by omega), w64 (x := x * 16777216 + y * 65536 + z * 256 + u) (by omega) (by omega)]
      generalize hq : x * 16777216 + y * 65536 + z * 256 + u = q
      have h3 := Int.tmod_eq_emod_of_nonneg (b := n) (show 0 ≤ q by omega)
      have h4 := Int.emod_nonneg q (show n ≠ 0 by omega)
      have h5 := Int.emod_lt_of_pos q (show 0 < n by omega)
      exact ⟨_, _, _, rfl, ⟨by rw [h3]; exact h4, .inl (by rw [h3]; exact h5)⟩, hc4⟩

theorem spec_l1New_l0 (c : List Int) (hl : c.length ≤ 1048576) (d : Nat) : ∀ (i : Nat) (h : Int), i + d = c.length → ∃ h', Ev (fun k => spec_l1New.l0 k c h (i : Int)) (c, 0, h') := by
  induction d with
  | zero =>
    intro i h hi
    refine ⟨h, Ev.step (f := fun _ => some (c, 0, h)) (fun k => ?_) (Ev.now _)⟩
    simp only [spec_l1New.l0]; rw [if_neg (by omega)]
  | succ d ih =>
    intro i h hi
    by_cases h4 : (i : Int) < 4000
    · obtain ⟨h', e⟩ := ih (i + 1) (Go.bits .and .i64 (wrap64 ((wrap64 ((wrap64 (h * 131)) + (wrap64 (rd c (i : Int))))) + 7)) 1073741823) (by omega)
      refine ⟨h', Ev.step (fun k => ?_) e⟩
      simp only [spec_l1New.l0]
      rw [if_pos (by omega), if_pos h4, if_pos (by omega), w64s i (by omega)]
    · refine ⟨h, Ev.step (f := fun _ => some (c, 0, h)) (fun k => ?_) (Ev.now _)⟩
      simp only [spec_l1New.l0]; rw [if_pos (by omega), if_neg h4]
theorem spec_l1New_dr (c : List Int) (hl : c.length ≤ 1048576) : ∃ h, Ev (fun k => spec_l1New.f k c) (c, 0, h) := by
  unfold spec_l1New.f
  exact spec_l1New_l0 c hl c.length 0 _ (by omega)
theorem cu0 (c : List Int) : Cu c 0 := ⟨Int.le_refl 0, by omega⟩

theorem spec_l1PickInt_dr (c : List Int) (i h : Int) (l : List Int) (hn : 0 < l.length) (hc : Cu c i) (hl : c.length ≤ 1048576) : ∃ x i' h', spec_l1PickInt.f c i h l = some (x, i', h') ∧ x ∈ l ∧ Cu c i' := by
  obtain ⟨x, i', h', e, hx, hc'⟩ := spec_l1Below_dr c i h (l.length : Int) hc hl
  have h1 : x < (l.length : Int) := by omega
  have h2 : x.toNat < l.length := by omega
  unfold spec_l1PickInt.f; rw [e, Option.bind_some]; dsimp only
  rw [if_pos hx.1, if_pos h1]
  refine ⟨_, _, _, rfl, ?_, hc'⟩
  simp only [rd, List.getD_eq_getElem?_getD, List.getElem?_eq_getElem h2, Option.getD_some]
  exact List.getElem_mem h2

theorem spec_l2DrawRight_dr (c : List Int) (i h : Int) (hc : Cu c i) (hl : c.length ≤ 1048576) : ∃ s i' h', Ev (fun k => spec_l2DrawRight.f k c i h) (s, i', h') ∧ (s.length ≤ 3 ∧ ∀ x ∈ s, 0 ≤ x ∧ x ≤ 5) ∧ Cu c i' := by
  unfold spec_l2DrawRight.f
  obtain ⟨x, i1, h1, e1, hx, hc1⟩ := spec_l1Below_dr c i h 5 hc hl
  by_cases x0 : x = 0
  · exact ⟨_, _, _, evBind0 e1 (evPos x0 (Ev.now _)), ⟨by simp, by simp⟩, hc1⟩
  · have hj : ∀ b, ∃ s i' h', Ev (fun k => spec_l2DrawRight.j0 k x b c i1 h1) (s, i', h') ∧ (s.length ≤ 3 ∧ ∀ x ∈ s, 0 ≤ x ∧ x ≤ 5) ∧ Cu c i' := by
      intro b
      cases b with
      | true =>
        obtain ⟨y, i2, h2, e2, hy, hc2⟩ := spec_l1Below_dr c i1 h1 6 hc1 hl
        refine ⟨_, _, _, Ev.step (fun k => by rw [spec_l2DrawRight.j0]) (evPos rfl (evBind0 e2 (Ev.now _))), ?_, hc2⟩
        dsimp only
        refine ⟨by simp, fun z hz => ?_⟩
        rw [List.mem_singleton] at hz; omega
      | false =>
        by_cases x3 : x = 3
        · obtain ⟨y, i2, h2, e2, hy, hc2⟩ := spec_l1Below_dr c i1 h1 4 hc1 hl
          obtain ⟨z, i3, h3, e3, hz, hc3⟩ := spec_l1Below_dr c i2 h2 3 hc2 hl
          refine ⟨[y, wrap64 (1 + z)], i3, h3, Ev.step (fun k => by rw [spec_l2DrawRight.j0]) (evNeg (by simp) (evPos x3 (evBind0 e2 ?_))), ?_, hc3⟩
          · exact evBind0 (a := (z, i3, h3)) e3 (Ev.now ([y, wrap64 (1 + z)], i3, h3))
          rw [w64 (x := 1 + z) (by omega) (by omega)]
          refine ⟨by simp, fun u hu => ?_⟩
          simp only [List.mem_cons, List.not_mem_nil, or_false] at hu; omega
        · obtain ⟨y, i2, h2, e2, hy, hc2⟩ := spec_l1Below_dr c i1 h1 3 hc1 hl
          obtain ⟨z, i3, h3, e3, hz, hc3⟩ := spec_l1Below_dr c i2 h2 2 hc2 hl
          obtain ⟨v, i4, h4, e4, hv, hc4⟩ := spec_l1Below_dr c i3 h3 4 hc3 hl
          refine ⟨[wrap64 (1 + y), wrap64 (1 + z), v], i4, h4, Ev.step (fun k => by rw [spec_l2DrawRight.j0]) (evNeg (by simp) (evNeg x3 (evBind0 e2 ?_))), ?_, hc4⟩
          · exact evBind0 (a := (z, i3, h3)) e3 (evBind0 (a := (v, i4, h4)) e4 (Ev.now ([wrap64 (1 + y), wrap64 (1 + z), v], i4, h4)))
          rw [w64 (x := 1 + y) (by omega) (by omega), w64 (x := 1 + z) (by omega) (by omega)]
          refine ⟨by simp, fun u hu => ?_⟩
          simp only [List.mem_cons, List.not_mem_nil, or_false] at hu; omega
    by_cases x1 : x = 1
    · obtain ⟨s, i', h', e, r⟩ := hj (x == 1)
      exact ⟨s, i', h', evBind0 e1 (evNeg x0 (evPos x1 e)), r⟩
    · obtain ⟨s, i', h', e, r⟩ := hj (x == 2)
      exact ⟨s, i', h', evBind0 e1 (evNeg x0 (evNeg x1 e)), r⟩
theorem spec_l2Draw_dr (c : List Int) (i h : Int) (hc : Cu c i) (hl : c.length ≤ 1048576) : ∃ s i' h', Ev (fun k => spec_l2Draw.f k c i h) (s, i', h') ∧ (s.length ≤ 4 ∧ ∀ x ∈ s, -1 ≤ x ∧ x ≤ 301) ∧ Cu c i' := by
  unfold spec_l2Draw.f
  obtain ⟨s, i1, h1, e1, ⟨hs, hx⟩, hc1⟩ := spec_l2DrawRight_dr c i h hc hl
  obtain ⟨x, i2, h2, e2, _, hc2⟩ := spec_l1Below_dr c i1 h1 20 hc1 hl
  by_cases x0 : x = 0
  · obtain ⟨y, i3, h3, e3, hy, hc3⟩ := spec_l1PickInt_dr c i2 h2 [-1, 0, 300, 301] (by decide) hc2 hl
    refine ⟨_, _, _, Ev.bind e1 (evBind0 e2 (evPos x0 (evBind0 e3 (evPos (by dsimp only; omega) (Ev.now _))))), ?_, hc3⟩
    dsimp only
    refine ⟨by rw [List.length_append]; simp; omega, fun u hu => ?_⟩
    rw [List.mem_append, List.mem_singleton] at hu
    simp only [List.mem_cons, List.not_mem_nil, or_false] at hy
    rcases hu with hu | hu
    · have := hx u hu; omega
    · omega
  by_cases x1 : x = 1
  · exact ⟨_, _, _, Ev.bind e1 (evBind0 e2 (evNeg x0 (evPos x1 (Ev.now _)))), ⟨by simp, by simp⟩, hc2⟩
  by_cases x2 : x = 2
  · obtain ⟨y, i3, h3, e3, hy, hc3⟩ := spec_l1PickInt_dr c i2 h2 [17, 20, 15, 300] (by decide) hc2 hl
    obtain ⟨z, i4, h4, e4, hz, hc4⟩ := spec_l1PickInt_dr c i3 h3 [15, 20, 16, 0] (by decide) hc3 hl
    refine ⟨_, _, _, Ev.bind e1 (evBind0 e2 (evNeg x0 (evNeg x1 (evPos x2 (evBind0 e3 (evBind0 e4 (Ev.now _))))))), ?_, hc4⟩
    dsimp only
    refine ⟨by simp, fun u hu => ?_⟩
    simp only [List.mem_cons, List.not_mem_nil, or_false] at hu hy hz; omega
  · exact ⟨_, _, _, Ev.bind e1 (evBind0 e2 (evNeg x0 (evNeg x1 (evNeg x2 (Ev.now _))))), ⟨by dsimp only; omega, fun u hu => by have := hx u hu; omega⟩, hc2⟩

theorem spec_l1Once_dr (c : List Int) (i h n : Int) (hc : Cu c i) (hl : c.length ≤ 1048576) : ∃ x i' h', spec_l1Once.f c i h n = some (x, i', h') ∧ Cu c i' := by
  obtain ⟨x, i', h', e, _, hc'⟩ := spec_l1Below_dr c i h n hc hl
  unfold spec_l1Once.f; rw [e, Option.bind_some]
  exact ⟨_, _, _, rfl, hc'⟩

theorem spec_l1DrawNum_dr (c : List Int) (i h : Int) (hc : Cu c i) (hl : c.length ≤ 1048576) : ∃ x i' h', spec_l1DrawNum.f c i h = some (x, i', h') ∧ (-1000000000000 ≤ x ∧ x ≤ 1000000000000) ∧ Cu c i' := by
  obtain ⟨b, i1, h1, e1, hc1⟩ := spec_l1Once_dr c i h 12 hc hl
  unfold spec_l1DrawNum.f; rw [e1, Option.bind_some]; dsimp only
  cases b with
  | true =>
    obtain ⟨x, i2, h2, e2, hx, hc2⟩ := spec_l1PickInt_dr c i1 h1 [1000000000000, -1000000000000, 999999999999, 1000000, -1000000, 1000001, 999999999999] (by decide) hc1 hl
    rw [if_pos rfl, e2, Option.bind_some]
    refine ⟨_, _, _, rfl, ?_, hc2⟩
    simp only [List.mem_cons, List.not_mem_nil, or_false] at hx
    dsimp only
    omega
  | false =>
    obtain ⟨x, i2, h2, e2, hx, hc2⟩ := spec_l1Below_dr c i1 h1 20 hc1 hl
    rw [if_neg (by simp), e2, Option.bind_some]
    refine ⟨_, _, _, rfl, ?_, hc2⟩
    dsimp only
    rw [w64 (by omega) (by omega)]; omega

theorem spec_l1DrawRaw_dr (c : List Int) (i h : Int) (hc : Cu c i) (hl : c.length ≤ 1048576) : ∃ x i' h', spec_l1DrawRaw.f c i h = some (x, i', h') ∧ (-9223372036854775808 ≤ x ∧ x ≤ 9223372036854775807) ∧ Cu c i' := by
  obtain ⟨b, i1, h1, e1, hc1⟩ := spec_l1Once_dr c i h 15 hc hl
  unfold spec_l1DrawRaw.f; rw [e1, Option.bind_some]; dsimp only
  cases b with
  | true =>
    obtain ⟨x, i2, h2, e2, hx, hc2⟩ := spec_l1PickInt_dr c i1 h1 [1000000000001, -1000000000001, 9223372036854775807, -9223372036854775808] (by decide) hc1 hl
    rw [if_pos rfl, e2, Option.bind_some]
    refine ⟨_, _, _, rfl, ?_, hc2⟩
    simp only [List.mem_cons, List.not_mem_nil, or_false] at hx
    dsimp only
    omega
  | false =>
    obtain ⟨x, i2, h2, e2, hx, hc2⟩ := spec_l1DrawNum_dr c i1 h1 hc1 hl
    rw [if_neg (by simp), e2, Option.bind_some]
    refine ⟨_, _, _, rfl, ?_, hc2⟩
    dsimp only
    omega

theorem spec_l3Fill_l0 (c s : List Int) (hl : c.length ≤ 1048576) (n : Nat) : ∀ (j : Nat) (d : List Int) (i h : Int), szOf s - j ≤ n → d.length = j → j ≤ 300 → (∀ x ∈ d, -1000000000000 ≤ x ∧ x ≤ 1000000000000) → Cu c i → ∃ e i' h', Ev (fun k => spec_l3Fill.l0 k s (j : Int) c i h s d) (s, e, i', h') ∧ (e.length ≤ 300 ∧ ∀ x ∈ e, -1000000000000 ≤ x ∧ x ≤ 1000000000000) ∧ Cu c i' := by
  have hz := szOf_ge s
  induction n with
  | zero =>
    intro j d i h hn hd hj hx hc
    refine ⟨d, i, h, Ev.step (fun k => by rw [spec_l3Fill.l0]) ?_, ⟨by omega, hx⟩, hc⟩
    refine Ev.bind (spec_SizeOf_ev s) ?_
    exact evNeg (by omega) (Ev.now _)
  | succ n ih =>
    intro j d i h hn hd hj hx hc
    by_cases hlt : (j : Int) < szOf s
    · obtain ⟨y, i1, h1, e1, hy, hc1⟩ := spec_l1DrawNum_dr c i h hc hl
      obtain ⟨e, i2, h2, ee, he, hc2⟩ := ih (j + 1) (d ++ [y]) i1 h1 (by omega) (by simp [hd]) (by omega) (fun x hx' => by
        rcases List.mem_append.1 hx' with h | h
        · exact hx x h
        · rw [List.mem_singleton] at h; omega) hc1
      refine ⟨e, i2, h2, Ev.step (fun k => by rw [spec_l3Fill.l0]) ?_, he, hc2⟩
      refine Ev.bind (spec_SizeOf_ev s) (evPos hlt (evBind0 e1 ?_))
      dsimp only
      rw [w64s j (by omega)]
      exact evPos (by omega) ee
    · refine ⟨d, i, h, Ev.step (fun k => by rw [spec_l3Fill.l0]) ?_, ⟨by omega, hx⟩, hc⟩
      exact Ev.bind (spec_SizeOf_ev s) (evNeg hlt (Ev.now _))
theorem spec_l3Fill_dr (c : List Int) (i h : Int) (s : List Int) (hs : s.length ≤ 100) (hc : Cu c i) (hl : c.length ≤ 1048576) : ∃ e i' h', Ev (fun k => spec_l3Fill.f k c i h s) (s, e, i', h') ∧ (e.length ≤ 300 ∧ ∀ x ∈ e, -1000000000000 ≤ x ∧ x ≤ 1000000000000) ∧ Cu c i' := by
  unfold spec_l3Fill.f
  have hz := szOf_ge s
  obtain ⟨e, i1, h1, ee, he, hc1⟩ := spec_l3Fill_l0 c s hl 300 0 [] i h (by omega) rfl (by omega) (by simp) hc
  exact ⟨e, i1, h1, evLet (evPos (by rw [List.length_nil]; omega) (by simpa using ee)), he, hc1⟩
theorem spec_l3DrawRight_dr (c : List Int) (i h : Int) (hc : Cu c i) (hl : c.length ≤ 1048576) : ∃ s d i' h', Ev (fun k => spec_l3DrawRight.f k c i h) (s, d, i', h') ∧ (s.length ≤ 3 ∧ d.length ≤ 300 ∧ ∀ x ∈ d, -1000000000000 ≤ x ∧ x ≤ 1000000000000) ∧ Cu c i' := by
  unfold spec_l3DrawRight.f
  obtain ⟨s, i1, h1, e1, ⟨hs, _⟩, hc1⟩ := spec_l2DrawRight_dr c i h hc hl
  obtain ⟨d, i2, h2, e2, hd, hc2⟩ := spec_l3Fill_dr c i1 h1 s (by omega) hc1 hl
  exact ⟨s, d, i2, h2, Ev.bind e1 (Ev.bind e2 (Ev.now _)), ⟨hs, hd⟩, hc2⟩
theorem spec_l3Draw_dr (c : List Int) (i h : Int) (hc : Cu c i) (hl : c.length ≤ 1048576) : ∃ s d i' h', Ev (fun k => spec_l3Draw.f k c i h) (s, d, i', h') ∧ (s.length ≤ 4 ∧ d.length ≤ 301 ∧ ∀ x ∈ d, -9223372036854775808 ≤ x ∧ x ≤ 9223372036854775807) ∧ Cu c i' := by
  unfold spec_l3Draw.f
  obtain ⟨s, d, i1, h1, e1, ⟨hs, hd, hx⟩, hc1⟩ := spec_l3DrawRight_dr c i h hc hl
  obtain ⟨x, i2, h2, e2, hx2, hc2⟩ := spec_l1Below_dr c i1 h1 20 hc1 hl
  have hw : ∀ x ∈ d, -9223372036854775808 ≤ x ∧ x ≤ 9223372036854775807 := fun x h => by have := hx x h; omega
  by_cases x0 : x = 0
  · refine ⟨s, d ++ [1], i2, h2, Ev.bind e1 (evBind0 e2 ?_), ⟨by omega, by simp; omega, fun y hy => ?_⟩, hc2⟩
    · dsimp only
      exact evPos x0 (evPos (by omega) (Ev.now _))
    · rcases List.mem_append.1 hy with h | h
      · exact hw y h
      · rw [List.mem_singleton] at h; omega
  by_cases x1 : x = 1
  · obtain ⟨s2, i3, h3, e3, ⟨hs2, _⟩, hc3⟩ := spec_l2Draw_dr c i2 h2 hc2 hl
    refine ⟨s2, d, i3, h3, Ev.bind e1 (evBind0 e2 ?_), ⟨hs2, by omega, hw⟩, hc3⟩
    dsimp only
    exact evNeg x0 (evPos x1 (Ev.bind e3 (Ev.now _)))
  by_cases x2 : x = 2
  · by_cases hd0 : (d.length : Int) > 0
    · obtain ⟨p, i3, h3, e3, hp, hc3⟩ := spec_l1Below_dr c i2 h2 (d.length : Int) hc2 hl
      obtain ⟨y, i4, h4, e4, hy, hc4⟩ := spec_l1DrawRaw_dr c i3 h3 hc3 hl
      refine ⟨s, d.set p.toNat y, i4, h4, Ev.bind e1 (evBind0 e2 ?_), ⟨by omega, by rw [List.length_set]; omega, fun z hz => ?_⟩, hc4⟩
      · dsimp only
        refine evNeg x0 (evNeg x1 (evPos x2 (evPos hd0 (evBind0 e3 ?_))))
        dsimp only
        refine evBind0 e4 ?_
        dsimp only
        exact evPos hp.1 (evPos (by omega) (Ev.now _))
      · rcases List.mem_or_eq_of_mem_set hz with h | h
        · exact hw z h
        · omega
    · refine ⟨s, d, i2, h2, Ev.bind e1 (evBind0 e2 ?_), ⟨by omega, by omega, hw⟩, hc2⟩
      dsimp only
      exact evNeg x0 (evNeg x1 (evPos x2 (evNeg hd0 (Ev.now _))))
  by_cases x3 : x = 3
  · obtain ⟨p, i3, h3, e3, hp, hc3⟩ := spec_l1Below_dr c i2 h2 2 hc2 hl
    have hq : wrap64 (300 + p) = 300 + p := w64 (by omega) (by omega)
    refine ⟨[300], List.replicate (300 + p).toNat 0, i3, h3, Ev.bind e1 (evBind0 e2 ?_), ⟨by simp, by rw [List.length_replicate]; omega, fun z hz => ?_⟩, hc3⟩
    · dsimp only
      refine evNeg x0 (evNeg x1 (evNeg x2 (evPos x3 (evBind0 e3 ?_))))
      dsimp only
      rw [hq]
      exact evPos (by omega) (evPos (by omega) (Ev.now _))
    · have := List.eq_of_mem_replicate hz; omega
  · refine ⟨s, d, i2, h2, Ev.bind e1 (evBind0 e2 ?_), ⟨by omega, by omega, hw⟩, hc2⟩
    dsimp only
    exact evNeg x0 (evNeg x1 (evNeg x2 (evNeg x3 (Ev.now _))))

def scalarOf (x : Int) : List Int × List Int × Bool := if okN x = true then ([], [x], true) else ([], [], false)
theorem impl_ScalarOf_eq (x : Int) : impl_ScalarOf.f x = some (scalarOf x) := by
  unfold impl_ScalarOf.f scalarOf; rw [impl_NumOk_eq, Option.bind_some]; split <;> rfl
theorem flat_cons (r : S26) (rs : List S26) : flat (r :: rs) = r.f1 ++ flat rs := by unfold flat; simp
theorem flat_drop (M : Nat) : ∀ (i : Nat) (rs : List S26), (∀ r ∈ rs, r.f1.length = M) → (flat rs).drop (i * M) = flat (rs.drop i)
  | 0, rs, _ => by simp
  | i + 1, [], _ => by simp [flat]
  | i + 1, r :: rs, h => by
    have h1 := h r (List.mem_cons_self ..)
    have ih := flat_drop M i rs (fun x hx => h x (List.mem_cons_of_mem _ hx))
    rw [flat_cons, List.drop_succ_cons, ← ih, Nat.succ_mul, List.drop_append, h1, show i * M + M - M = i * M by omega, List.drop_of_length_le (by omega), List.nil_append]
theorem flat_row (M : Nat) (rs : List S26) (hM : ∀ r ∈ rs, r.f1.length = M) (i : Nat) (h : i < rs.length) : ((flat rs).take ((i + 1) * M)).drop (i * M) = rs[i].f1 := by
  have h1 := hM rs[i] (List.getElem_mem h)
  rw [List.drop_take, flat_drop M i rs hM, List.drop_eq_getElem_cons h, flat_cons, Nat.succ_mul, show i * M + M - i * M = M by omega, ← h1, List.take_left]
theorem spec_DrawTurn_dr (c : List Int) (hl : c.length ≤ 1048576) : ∃ s d, Ev (fun k => spec_DrawTurn.f k c) (s, d) ∧ s.length ≤ 4 ∧ d.length ≤ 301 := by
  unfold spec_DrawTurn.f
  obtain ⟨h0, e0⟩ := spec_l1New_dr c hl
  obtain ⟨s, d, i1, h1, e1, ⟨hs, hd, _⟩, _⟩ := spec_l3Draw_dr c 0 h0 (cu0 c) hl
  exact ⟨s, d, Ev.bind e0 (Ev.bind e1 (Ev.now _)), hs, hd⟩
theorem rowsN_flat (t : List Int) (M : Nat) (rs : List S26) (h : ∀ r ∈ rs, r.f1.length = M) (ht : ∀ r ∈ rs, r.f0 = t) : rowsN rs.length t (flat rs) M = rs := by
  refine List.ext_getElem (rowsN_length ..) (fun i h1 h2 => ?_)
  have e0 : (rowsN rs.length t (flat rs) M)[i] = row t (flat rs) M i := (rdT _ i h1).symm.trans (rowsN_rd _ t _ M i h2)
  rw [e0]
  show (⟨t, ((flat rs).take ((i + 1) * M)).drop (i * M)⟩ : S26) = rs[i]
  rw [flat_row M rs h i h2]
  have := ht rs[i] (List.getElem_mem h2)
  subst this
  rfl
theorem flat_rowsN {N M : Nat} {t d : List Int} (hd : N * M = d.length) : flat (rowsN N t d M) = d := by
  have key : ∀ j : Nat, flat (rowsN j t d M) = d.take (j * M) := by
    intro j
    induction j with
    | zero => simp [rowsN, flat]
    | succ j ih =>
      have e : rowsN (j + 1) t d M = rowsN j t d M ++ [row t d M j] := by unfold rowsN; rw [List.range_succ, List.map_append]; rfl
      rw [e, flat_append, ih, flat_one]
      have h2 : (j + 1) * M = j * M + M := Nat.succ_mul j M
      have e2 : d.take (j * M) = (d.take ((j + 1) * M)).take (j * M) := by rw [List.take_take, Nat.min_eq_left (by omega)]
      show d.take (j * M) ++ (d.take ((j + 1) * M)).drop (j * M) = _
      rw [e2, List.take_append_drop]
  rw [key N, hd, List.take_length]
theorem rowsN_f0 {N M : Nat} {t d : List Int} : ∀ r ∈ rowsN N t d M, r.f0 = t := by
  intro r hr
  unfold rowsN at hr
  rw [List.mem_map] at hr
  obtain ⟨i, _, rfl⟩ := hr
  rfl
theorem turn_turn {m : Int} {t d : List Int} (h : arrayOk (m :: t) d = true) : flat (revR m t (flat (revR m t d))) = d := by
  obtain ⟨f1, f2, f3, f4, f5, f6⟩ := rows_facts h
  have e := rowsN_flat t (prod t).toNat (revR m t d) (revR_row f2) (fun r hr => rowsN_f0 r (List.mem_reverse.1 hr))
  rw [revR_length] at e
  have e2 : revR m t (flat (revR m t d)) = (rowsN m.toNat t (flat (revR m t d)) (prod t).toNat).reverse := rfl
  rw [e2, e]
  show flat ((rowsN m.toNat t d (prod t).toNat).reverse.reverse) = d
  rw [List.reverse_reverse, flat_rowsN f2]
theorem rotI_back (N : Nat) (n : Int) (i : Nat) (hi : i < N) : rotI N n (rotI N (-n) i) = i := by
  unfold rotI
  rw [Int.toNat_of_nonneg (Int.emod_nonneg _ (by omega)), Int.emod_add_emod, show (i : Int) + -n + n = (i : Int) by omega, Int.emod_eq_of_lt (by omega) (by omega)]
  omega
theorem rot_rot {N M : Nat} {t d : List Int} {n : Int} (hd : N * M = d.length) : flat (rotN N t (flat (rotN N t d M n)) M (-n)) = d := by
  have e := rowsN_flat t M (rotN N t d M n) (rotN_row hd) (fun r hr => by unfold rotN at hr; rw [List.mem_map] at hr; obtain ⟨i, _, rfl⟩ := hr; rfl)
  rw [rotN_length] at e
  have er : ∀ i, i < N → row t (flat (rotN N t d M n)) M i = row t d M (rotI N n i) := fun i hi => by
    have h1 : (rowsN N t (flat (rotN N t d M n)) M)[i]'(by rw [rowsN_length]; exact hi) = row t (flat (rotN N t d M n)) M i := by unfold rowsN; simp
    have h2 : (rotN N t d M n)[i]'(by rw [rotN_length]; exact hi) = row t d M (rotI N n i) := by unfold rotN; simp
    rw [← h1, ← h2]
    congr 1
  have e2 : rotN N t (flat (rotN N t d M n)) M (-n) = rowsN N t d M := by
    unfold rowsN
    show (List.range N).map (fun i => row t (flat (rotN N t d M n)) M (rotI N (-n) i)) = _
    refine List.map_congr_left (fun i hi => ?_)
    rw [List.mem_range] at hi
    rw [er _ (rotI_lt N (-n) i (by omega)), rotI_back N n i hi]
  rw [e2, flat_rowsN hd]
theorem flip_ok {s d : List Int} (h : arrayOk s d = true) : arrayOk s.reverse ((List.range d.length).map (fun q : Nat => rd d (src s (q : Int)))) = true := by
  obtain ⟨h1, h2, h3, h4, h5⟩ := arrayOk_t h
  unfold arrayOk
  rw [Bool.and_eq_true, decide_eq_true_iff]
  refine ⟨by rw [szOf_reverse]; simp; omega, ?_⟩
  rw [List.all_eq_true]
  intro x hx
  rw [List.mem_map] at hx
  obtain ⟨q, hq, rfl⟩ := hx
  rw [List.mem_range] at hq
  obtain ⟨g1, g2, g3, g4⟩ := src_facts (s := s) (q := (q : Int)) (by omega)
  obtain ⟨p, hp⟩ : ∃ p : Nat, src s (q : Int) = (p : Int) := ⟨_, (Int.toNat_of_nonneg g1).symm⟩
  rw [hp, rdn d p (by omega)]
  exact h2 _ (List.getElem_mem _)
theorem flip_flip {s d : List Int} (h : arrayOk s d = true) : flip s.reverse ((List.range d.length).map (fun q : Nat => rd d (src s (q : Int)))) = (s, d, 0) := by
  obtain ⟨h1, h2, h3, h4, h5⟩ := arrayOk_t h
  unfold flip
  rw [if_pos (flip_ok h), List.reverse_reverse]
  refine congrArg (fun z => (s, z, (0 : Int))) ?_
  refine List.ext_getElem (by simp) fun q q1 q2 => ?_
  have hq : q < d.length := by simpa using q1
  obtain ⟨g1, g2, g3, g4⟩ := src_facts (s := s.reverse) (q := (q : Int)) (by rw [szOf_reverse]; omega)
  rw [List.reverse_reverse] at g3
  rw [szOf_reverse] at g2
  obtain ⟨p, hp⟩ : ∃ p : Nat, src s.reverse (q : Int) = (p : Int) := ⟨_, (Int.toNat_of_nonneg g1).symm⟩
  rw [hp] at g3 g2
  rw [List.getElem_map, List.getElem_range, hp, rdn _ p (by simp; omega), List.getElem_map, List.getElem_range, g3, rdn d q hq]
theorem laws_at_one (l : List Int) (hl : l.length ≤ 1048576) (hw : ∀ x ∈ l, (Lit.int .u8 x).wf = true) : ∃ t, laws_at.f l 1 = some t ∧ 0 ≤ t ∧ t ≤ 255 := by
  unfold laws_at.f
  by_cases h : (1 : Int) < (l.length : Int)
  · rw [if_pos h, if_pos (by omega)]
    have hx := hw _ (List.getElem_mem (show 1 < l.length by omega))
    have e : rd l 1 = l[1]'(by omega) := rdn l 1 (by omega)
    have hb : 0 ≤ l[1]'(by omega) ∧ l[1]'(by omega) ≤ 255 := by
      have hx2 : (decide (IntKind.u8.min ≤ l[1]'(by omega)) && decide (l[1]'(by omega) ≤ IntKind.u8.max)) = true := hx
      rw [Bool.and_eq_true, decide_eq_true_iff, decide_eq_true_iff] at hx2
      exact ⟨hx2.1, hx2.2⟩
    rw [e]
    exact ⟨_, rfl, by rw [w64 (by omega) (by omega)]; omega, by rw [w64 (by omega) (by omega)]; omega⟩
  · rw [if_neg h]
    refine ⟨_, rfl, ?_⟩
    rw [w64 (x := (1 : Int) * 7) (by omega) (by omega), w64 (by omega) (by omega), Int.tmod_eq_emod_of_nonneg (by omega)]
    omega
theorem scal_ok {x : Int} (h : -1000 ≤ x ∧ x ≤ 1000) : scalarOf x = ([], [x], true) ∧ arrayOk [] [x] = true := by
  have hx : okN x = true := decide_eq_true (by omega)
  exact ⟨by unfold scalarOf; rw [if_pos hx], by simp [arrayOk, hx, szOf, inR, prod]⟩
theorem rotate_one {x : Int} {c d : List Int} (hx : -1000 ≤ x ∧ x ≤ 1000) (h : arrayOk c d = true) : ∃ e, rotate [] [x] c d = (c, e, 0) ∧ arrayOk c e = true ∧ e.length = d.length ∧ rotate [] [-x] c e = (c, d, 0) := by
  have h1 := (scal_ok hx).2
  have h2 := (scal_ok (x := -x) (by omega)).2
  cases c with
  | nil =>
    refine ⟨d, ?_, h, rfl, ?_⟩
    · unfold rotate; rw [if_pos ⟨h1, h⟩, if_pos (show [x].length = 1 from rfl)]
    · unfold rotate; rw [if_pos ⟨h2, h⟩, if_pos (show [-x].length = 1 from rfl)]
  | cons m t =>
    obtain ⟨f1, f2, f3, f4, f5, f6⟩ := rows_facts h
    by_cases h3 : m = 0
    · refine ⟨d, ?_, h, rfl, ?_⟩
      · unfold rotate; rw [if_pos ⟨h1, h⟩, if_pos (show [x].length = 1 from rfl)]; exact if_pos h3
      · unfold rotate; rw [if_pos ⟨h2, h⟩, if_pos (show [-x].length = 1 from rfl)]; exact if_pos h3
    · have hf := rot_flat_ok (n := x) h
      refine ⟨flat (rotN m.toNat t d (prod t).toNat x), ?_, hf.1, hf.2, ?_⟩
      · unfold rotate; rw [if_pos ⟨h1, h⟩, if_pos (show [x].length = 1 from rfl)]; exact if_neg h3
      · unfold rotate; rw [if_pos ⟨h2, hf.1⟩, if_pos (show [-x].length = 1 from rfl)]
        refine (if_neg h3).trans ?_
        have e0 : rd [-x] 0 = -x := rfl
        rw [e0, rot_rot f2]
theorem turn_two {s d : List Int} (h : arrayOk s d = true) : ∃ e, turn s d = (s, e, 0) ∧ e.length = d.length ∧ turn s e = (s, d, 0) := by
  cases s with
  | nil => exact ⟨d, by unfold turn; rw [if_pos h], rfl, by unfold turn; rw [if_pos h]⟩
  | cons m t =>
    have hf := rev_flat_ok h
    refine ⟨flat (revR m t d), by unfold turn; rw [if_pos h], hf.2, ?_⟩
    unfold turn
    rw [if_pos hf.1]
    show (m :: t, flat (revR m t (flat (revR m t d))), (0 : Int)) = _
    rw [turn_turn h]
theorem w00 : wrap64 0 = 0 := w64 (by omega) (by omega)
theorem FnTurned : laws_FnTurned.Pure := by
  intro l _ _ hw
  refine Ev.rounds (g := fun k => laws_FnTurned.f k l) ?_
  unfold laws_FnTurned.f
  refine evBind0 (laws_big_eq l) ?_
  by_cases hb : (l.length : Int) > 1048576
  · exact evPos (decide_eq_true hb) (Ev.now _)
  refine evNeg (by simpa using hb) ?_
  have hl : l.length ≤ 1048576 := by omega
  obtain ⟨s, d, e, hs, hd⟩ := spec_DrawTurn_dr l hl
  refine Ev.bind e (Ev.bind (impl_Turn_ev s d (by omega) (by omega)) (Ev.bind (impl_Flip_ev s d (by omega) (by omega)) (Ev.bind (spec_Turn_ev s d (by omega) (by omega)) (evPos rfl ?_))))
  dsimp only
  obtain ⟨t, et, ht⟩ := laws_at_one l hl hw
  by_cases h : arrayOk s d = true
  · obtain ⟨x, ex, hx, ex2⟩ := turn_two h
    have ef : flip s d = (s.reverse, (List.range d.length).map (fun q : Nat => rd d (src s (q : Int))), 0) := by unfold flip; rw [if_pos h]
    obtain ⟨y, ey, hy, hyl, ey2⟩ := rotate_one (x := t - 100) (by omega) h
    have w1 : wrap64 (t - 100) = t - 100 := w64 (by omega) (by omega)
    have w2 : wrap64 (100 - t) = -(t - 100) := by rw [w64 (by omega) (by omega)]; omega
    have k1 := (scal_ok (x := t - 100) (by omega)).1
    have k2 := (scal_ok (x := -(t - 100)) (by omega)).1
    rw [ex, ef]
    refine Ev.step (fun k => by rw [laws_FnTurned.j0]) (evNeg (by simp) (evPos rfl ?_))
    have b1 := impl_Turn_ev s x (by omega) (by omega)
    rw [ex2] at b1
    have b2 := impl_Flip_ev s.reverse ((List.range d.length).map (fun q : Nat => rd d (src s (q : Int)))) (by rw [List.length_reverse]; omega) (by simp; omega)
    rw [flip_flip h] at b2
    have b3 := impl_ScalarOf_eq (t - 100)
    rw [k1] at b3
    have b4 := impl_ScalarOf_eq (-(t - 100))
    rw [k2] at b4
    have b5 := impl_Rotate_ev [] [t - 100] s d (by simp) (by omega) (by omega)
    rw [ey] at b5
    have b6 := impl_Rotate_ev [] [-(t - 100)] s y (by simp) (by omega) (by omega)
    rw [ey2] at b6
    refine Ev.bind b1 (Ev.bind b2 (evBind0 et ?_))
    rw [w1]
    refine evBind0 b3 (evBind0 et ?_)
    rw [w2]
    refine evBind0 b4 (Ev.bind b5 (Ev.bind b6 (evPos (by show wrap64 (wrap64 (wrap64 ((0 : Int) + 0) + 0) + 0) = 0; simp only [Int.add_zero, w00]) ?_)))
    have hsm := laws_sameArray_rfl s d (by omega) (by omega)
    exact Ev.bind hsm (evPos rfl (Ev.bind hsm (evPos rfl (Ev.bind hsm (Ev.now _)))))
  · have ex : turn s d = ([], [], 1) := by unfold turn; rw [if_neg h]
    have ef : flip s d = ([], [], 1) := by unfold flip; rw [if_neg h]
    rw [ex, ef]
    refine Ev.step (fun k => by rw [laws_FnTurned.j0]) (evNeg (by simp) (evNeg (by decide) ?_))
    exact evSome (by show (wrap64 ((0 : Int) + 0) == 0) = true; rw [Int.add_zero, w00]; rfl)

end Go.Proofs.Ytkjcpgjhpfocmaa.Pure
