/- The law FnRotated answers true for each code: a drawn array that is rotated has the same rows, that of a number at that number from there. Conditions: those of the row's own reading alone. -/
import Derived.Test.YtjkbndfaemjjiaaPFnRotatedx
namespace Go.Proofs.Ytjkbndfaemjjiaa.Pure
open Go.RowKit Go.Proofs.Ytjkbndfaemjjiaa.PFnRotated Go.Proofs.YtjkbndfaemjjiaaW.PrintWords Go.Proofs.YtjkbndfaemjjiaaW.PrintLast Go.Proofs.YtjkbndfaemjjiaaW.PrintMore
set_option linter.unusedVariables false
set_option linter.unusedSimpArgs false

section
variable {α β : Type}
theorem evPos {c : Prop} [Decidable c] {g h : Nat → Option α} {r : α} (hc : c) (e : Ev g r) : Ev (fun k => if c then g k else h k) r := by
  simpa only [if_pos hc] using e
theorem evNeg {c : Prop} [Decidable c] {g h : Nat → Option α} {r : α} (hc : ¬ c) (e : Ev h r) : Ev (fun k => if c then g k else h k) r := by
  simpa only [if_neg hc] using e
theorem evBind0 {o : Option α} {f : Nat → α → Option β} {a : α} {r : β} (h : o = some a) (k : Ev (fun n => f n a) r) : Ev (fun n => o.bind (f n)) r := by
  subst h; simpa only [Option.bind_some] using k
theorem evLet {a : α} {f : Nat → α → Option β} {r : β} (k : Ev (fun n => f n a) r) : Ev (fun n => (some a).bind (f n)) r := by
  simpa only [Option.bind_some] using k
theorem evEq {g : Nat → Option α} {r r' : α} (h : Ev g r) (e : r = r') : Ev g r' := e ▸ h
theorem evSomeEq {o : Option α} {r : α} (e : o = some r) : Ev (fun _ => o) r := e ▸ Ev.now r
theorem evSome {a r : α} (e : a = r) : Ev (fun _ => some a) r := e ▸ Ev.now a
end
theorem w64 {x : Int} (h : -9223372036854775808 ≤ x) (h' : x ≤ 9223372036854775807) : wrap64 x = x := by unfold wrap64; omega
theorem w64s (i : Nat) (h : i < 4611686018427387904) : wrap64 ((i : Int) + 1) = ((i + 1 : Nat) : Int) := by rw [w64] <;> omega
theorem rdn (l : List Int) (i : Nat) (h : i < l.length) : rd l (i : Int) = l[i] := by
  simp only [rd, Int.toNat_natCast, List.getD_eq_getElem?_getD, List.getElem?_eq_getElem h, Option.getD_some]
theorem wfI {x : Int} (h : (Lit.int .i64 x).wf = true) : -9223372036854775808 ≤ x ∧ x ≤ 9223372036854775807 := by
  have h2 : (decide (IntKind.i64.min ≤ x) && decide (x ≤ IntKind.i64.max)) = true := h
  rw [Bool.and_eq_true, decide_eq_true_iff, decide_eq_true_iff] at h2
  have e1 : IntKind.i64.min = -9223372036854775808 := by decide
  have e2 : IntKind.i64.max = 9223372036854775807 := by decide
  rw [e1, e2] at h2
  exact h2

/-- The product of a list. -/
def prod : List Int → Int
  | [] => 1
  | x :: l => x * prod l
/-- May these stand in a shape? -/
def inR (l : List Int) : Bool := l.all fun n => decide (0 ≤ n ∧ n ≤ 300)
/-- How many numbers an array of a shape has; -1 where the shape isn't right. -/
def szOf (l : List Int) : Int := if 3 < l.length then -1 else if inR l = true then (if prod l > 300 then -1 else prod l) else -1
theorem mul300 {a b : Int} {m n : Int} (h0 : 0 ≤ a) (h1 : a ≤ m) (h2 : 0 ≤ b) (h3 : b ≤ n) : 0 ≤ a * b ∧ a * b ≤ m * n :=
  ⟨Int.mul_nonneg h0 h2, Int.mul_le_mul h1 h3 h2 (Int.le_trans h0 h1)⟩
theorem shape_cases {l : List Int} (h : ¬ 3 < l.length) : l = [] ∨ (∃ a, l = [a]) ∨ (∃ a b, l = [a, b]) ∨ ∃ a b c, l = [a, b, c] := by
  match l, h with
  | [], _ => exact .inl rfl
  | [a], _ => exact .inr (.inl ⟨a, rfl⟩)
  | [a, b], _ => exact .inr (.inr (.inl ⟨a, b, rfl⟩))
  | [a, b, c], _ => exact .inr (.inr (.inr ⟨a, b, c, rfl⟩))
  | _ :: _ :: _ :: _ :: _, h => exact absurd (by simp) h
theorem inR_cons {a : Int} {l : List Int} : inR (a :: l) = true ↔ (0 ≤ a ∧ a ≤ 300) ∧ inR l = true := by
  simp [inR]
/-- A part of a shape's product stays small. -/
def pw : Nat → Int
  | 0 => 1
  | n + 1 => 300 * pw n
theorem prod_le : ∀ (l : List Int), inR l = true → 0 ≤ prod l ∧ prod l ≤ pw l.length
  | [], _ => by simp [prod, pw]
  | a :: l, h => by
    obtain ⟨⟨h0, h1⟩, h2⟩ := inR_cons.1 h
    obtain ⟨h3, h4⟩ := prod_le l h2
    exact mul300 h0 h1 h3 h4
theorem prod_append : ∀ (a b : List Int), prod (a ++ b) = prod a * prod b
  | [], b => by simp [prod]
  | x :: a, b => by simp [prod, prod_append a b, Int.mul_assoc]
theorem pw_le {n : Nat} (h : n ≤ 3) : pw n ≤ 27000000 := by
  match n, h with
  | 0, _ => decide
  | 1, _ => decide
  | 2, _ => decide
  | 3, _ => decide
theorem inR_take {l : List Int} (i : Nat) (h : inR l = true) : inR (l.take i) = true := by
  simp only [inR, List.all_eq_true] at h ⊢
  exact fun x hx => h x (List.mem_of_mem_take hx)
theorem prod_take_succ (l : List Int) (i : Nat) (h : i < l.length) : prod (l.take (i + 1)) = prod (l.take i) * l[i] := by
  rw [List.take_succ_eq_append_getElem h, prod_append]; simp [prod]
/-- The product so far is small. -/
theorem prod_take_le (l : List Int) (i : Nat) (hl : ¬ 3 < l.length) (h : inR (l.take i) = true) : 0 ≤ prod (l.take i) ∧ prod (l.take i) ≤ 27000000 := by
  obtain ⟨h0, h1⟩ := prod_le _ h
  have h2 : (l.take i).length ≤ 3 := by rw [List.length_take]; omega
  exact ⟨h0, Int.le_trans h1 (pw_le h2)⟩
theorem inR_take_succ (l : List Int) (i : Nat) (h : i < l.length) : inR (l.take (i + 1)) = true ↔ inR (l.take i) = true ∧ (0 ≤ l[i] ∧ l[i] ≤ 300) := by
  unfold inR
  rw [List.take_succ_eq_append_getElem h, List.all_append, Bool.and_eq_true]; simp
theorem inR_not {l : List Int} (i : Nat) (h : i < l.length) (hx : ¬ (0 ≤ l[i] ∧ l[i] ≤ 300)) : inR l = false := by
  rw [← Bool.not_eq_true]
  intro hh
  simp only [inR, List.all_eq_true] at hh
  exact hx (of_decide_eq_true (hh _ (List.getElem_mem h)))
theorem szOf_ge (l : List Int) : -1 ≤ szOf l ∧ szOf l ≤ 300 := by
  unfold szOf
  by_cases h1 : 3 < l.length
  · rw [if_pos h1]; omega
  · rw [if_neg h1]
    by_cases h2 : inR l = true
    · rw [if_pos h2]
      have := (prod_le l h2).1
      by_cases h3 : prod l > 300
      · rw [if_pos h3]; omega
      · rw [if_neg h3]; omega
    · rw [if_neg h2]; omega

/-- A right number. -/
def okN (x : Int) : Bool := decide (-1000000000000 ≤ x ∧ x ≤ 1000000000000)
theorem okN_t {x : Int} (h : okN x = true) : -1000000000000 ≤ x ∧ x ≤ 1000000000000 := of_decide_eq_true h
theorem okN_f {x : Int} (h : okN x = false) : ¬ (-1000000000000 ≤ x ∧ x ≤ 1000000000000) := of_decide_eq_false h

/-- The place of an index, from a number on; -1 where the index isn't right. -/
def placeGo : Int → List Int → List Int → Int
  | a, n :: s, i :: x => if 0 ≤ i ∧ i ≤ n - 1 then placeGo (a * n + i) s x else -1
  | a, _, _ => a
def placeOf (s x : List Int) : Int := if szOf s ≥ 0 ∧ x.length = s.length then placeGo 0 s x else -1
theorem szOf_nonneg {l : List Int} (h : szOf l ≥ 0) : ¬ 3 < l.length ∧ inR l = true ∧ prod l ≤ 300 ∧ szOf l = prod l := by
  unfold szOf at h ⊢
  by_cases h1 : 3 < l.length
  · rw [if_pos h1] at h; omega
  · rw [if_neg h1] at h ⊢
    by_cases h2 : inR l = true
    · rw [if_pos h2] at h ⊢
      by_cases h3 : prod l > 300
      · rw [if_pos h3] at h; omega
      · rw [if_neg h3] at h ⊢; exact ⟨h1, h2, by omega, rfl⟩
    · rw [if_neg h2] at h; omega
def pb : Nat → Int
  | 0 => 0
  | n + 1 => 300 * pb n + 300
theorem pb_le {n : Nat} (h : n ≤ 3) : pb n ≤ 28000000 := by
  match n, h with
  | 0, _ => decide
  | 1, _ => decide
  | 2, _ => decide
  | 3, _ => decide

def arrayOk (s d : List Int) : Bool := decide ((d.length : Int) = szOf s) && d.all okN
theorem arrayOk_t {s d : List Int} (h : arrayOk s d = true) : (d.length : Int) = szOf s ∧ (∀ x ∈ d, okN x = true) ∧ d.length ≤ 300 ∧ s.length ≤ 3 ∧ szOf s ≥ 0 := by
  unfold arrayOk at h
  rw [Bool.and_eq_true, decide_eq_true_iff, List.all_eq_true] at h
  have h1 := szOf_ge s
  have h2 : szOf s ≥ 0 := by omega
  exact ⟨h.1, h.2, by omega, by have := (szOf_nonneg h2).1; omega, h2⟩

def row (t d : List Int) (M i : Nat) : S26 := ⟨t, (d.take ((i + 1) * M)).drop (i * M)⟩
def rowsN (N : Nat) (t d : List Int) (M : Nat) : List S26 := (List.range N).map (row t d M)
theorem rowsN_length (N : Nat) (t d : List Int) (M : Nat) : (rowsN N t d M).length = N := by unfold rowsN; simp
theorem rowsN_rd (N : Nat) (t d : List Int) (M i : Nat) (h : i < N) : rd_T26 (rowsN N t d M) (i : Int) = row t d M i := by
  unfold rd_T26 rowsN
  rw [Int.toNat_natCast, List.getD_eq_getElem?_getD, List.getElem?_eq_getElem (by simp; exact h)]; simp
def rows (s d : List Int) : List S26 := match s with
  | [] => []
  | n :: t => if arrayOk (n :: t) d = true then rowsN n.toNat t d (prod t).toNat else []
theorem rows_cons (n : Int) (t d : List Int) : rows (n :: t) d = if arrayOk (n :: t) d = true then rowsN n.toNat t d (prod t).toNat else [] := rfl
theorem wmul (a b : Nat) (h : a * b ≤ 1048576) : wrap64 ((a : Int) * (b : Int)) = ((a * b : Nat) : Int) := by
  have e : ((a * b : Nat) : Int) = (a : Int) * (b : Int) := Int.natCast_mul a b
  rw [w64] <;> omega
theorem rows_facts {n : Int} {t d : List Int} (h : arrayOk (n :: t) d = true) : 0 ≤ n ∧ n.toNat * (prod t).toNat = d.length ∧ n.toNat ≤ 300 ∧ (0 < n.toNat → szOf t = ((prod t).toNat : Int)) ∧ d.length ≤ 300 ∧ t.length ≤ 2 := by
  obtain ⟨h1, h2, h3, h4, h5⟩ := arrayOk_t h
  obtain ⟨g1, g2, g3, g4⟩ := szOf_nonneg h5
  obtain ⟨⟨a1, a2⟩, a3⟩ := inR_cons.1 g2
  have p0 := (prod_le t a3).1
  have ep : prod (n :: t) = n * prod t := rfl
  have hp : ((n.toNat * (prod t).toNat : Nat) : Int) = n * prod t := by rw [Int.natCast_mul, Int.toNat_of_nonneg a1, Int.toNat_of_nonneg p0]
  simp only [List.length_cons] at h4
  refine ⟨a1, by omega, by omega, fun hn => ?_, h3, by omega⟩
  have hle : prod t ≤ n * prod t := by
    have := Int.mul_le_mul_of_nonneg_right (show 1 ≤ n by omega) p0; rwa [Int.one_mul] at this
  unfold szOf
  rw [if_neg (by omega), if_pos a3, if_neg (by omega)]; omega
theorem row_len {N M i : Nat} {t d : List Int} (hd : N * M = d.length) (h : i < N) : (row t d M i).f1.length = M := by
  have h1 : (i + 1) * M ≤ N * M := Nat.mul_le_mul_right _ h
  have h2 : (i + 1) * M = i * M + M := Nat.succ_mul i M
  show ((d.take ((i + 1) * M)).drop (i * M)).length = M
  rw [List.length_drop, List.length_take, Nat.min_eq_left (by omega)]; omega
theorem row_get {N M i j : Nat} {t d : List Int} (hd : N * M = d.length) (h : i < N) (hj : j < M) : rd (row t d M i).f1 (j : Int) = rd d ((i * M + j : Nat) : Int) := by
  have h1 : (i + 1) * M ≤ N * M := Nat.mul_le_mul_right _ h
  have h2 : (i + 1) * M = i * M + M := Nat.succ_mul i M
  rw [rdn _ j (by rw [row_len hd h]; exact hj), rdn d _ (by omega)]
  unfold row; simp

def flat (rs : List S26) : List Int := (rs.map (fun r => r.f1)).flatten
theorem flat_append (a b : List S26) : flat (a ++ b) = flat a ++ flat b := by unfold flat; simp
theorem flat_one (r : S26) : flat [r] = r.f1 := by unfold flat; simp
theorem flat_len (M : Nat) : ∀ (rs : List S26), (∀ r ∈ rs, r.f1.length = M) → (flat rs).length = rs.length * M
  | [], _ => by simp [flat]
  | r :: rs, h => by
    have ih := flat_len M rs (fun x hx => h x (List.mem_cons_of_mem _ hx))
    have h1 := h r (List.mem_cons_self ..)
    have e : flat (r :: rs) = r.f1 ++ flat rs := by unfold flat; simp
    rw [e, List.length_append, ih, h1, List.length_cons, Nat.succ_mul, Nat.add_comm]
theorem flat_take (rs : List S26) (i : Nat) (h : i < rs.length) : flat (rs.take (i + 1)) = flat (rs.take i) ++ rs[i].f1 := by
  rw [List.take_add_one, List.getElem?_eq_getElem h, flat_append, Option.toList_some, flat_one]
theorem rdT (rs : List S26) (i : Nat) (h : i < rs.length) : rd_T26 rs (i : Int) = rs[i] := by
  unfold rd_T26
  rw [Int.toNat_natCast, List.getD_eq_getElem?_getD, List.getElem?_eq_getElem h]; rfl
def rotI (N : Nat) (n : Int) (i : Nat) : Nat := (((i : Int) + n) % (N : Int)).toNat
def rotN (N : Nat) (t d : List Int) (M : Nat) (n : Int) : List S26 := (List.range N).map (fun i => row t d M (rotI N n i))
theorem rotI_lt (N : Nat) (n : Int) (i : Nat) (h : 0 < N) : rotI N n i < N := by
  have h1 := Int.emod_nonneg ((i : Int) + n) (show (N : Int) ≠ 0 by omega)
  have h2 := Int.emod_lt_of_pos ((i : Int) + n) (show (0 : Int) < N by omega)
  unfold rotI; omega
theorem rotN_length (N : Nat) (t d : List Int) (M : Nat) (n : Int) : (rotN N t d M n).length = N := by unfold rotN; simp
theorem rotN_row {N M : Nat} {t d : List Int} {n : Int} (hd : N * M = d.length) : ∀ r ∈ rotN N t d M n, r.f1.length = M := by
  intro r hr
  unfold rotN at hr
  rw [List.mem_map] at hr
  obtain ⟨i, hi, rfl⟩ := hr
  rw [List.mem_range] at hi
  exact row_len hd (rotI_lt N n i (by omega))
theorem rotN_ok {N M : Nat} {t d : List Int} {n : Int} (h : ∀ x ∈ d, okN x = true) : (flat (rotN N t d M n)).all okN = true := by
  rw [List.all_eq_true]
  intro x hx
  unfold flat at hx
  rw [List.mem_flatten] at hx
  obtain ⟨l, hl, hx⟩ := hx
  rw [List.mem_map] at hl
  obtain ⟨r, hr, rfl⟩ := hl
  unfold rotN at hr
  rw [List.mem_map] at hr
  obtain ⟨i, _, rfl⟩ := hr
  exact h x (List.mem_of_mem_take (List.mem_of_mem_drop hx))
theorem rot_flat_ok {m : Int} {t d : List Int} {n : Int} (h : arrayOk (m :: t) d = true) : arrayOk (m :: t) (flat (rotN m.toNat t d (prod t).toNat n)) = true ∧ (flat (rotN m.toNat t d (prod t).toNat n)).length = d.length := by
  obtain ⟨f1, f2, f3, f4, f5, f6⟩ := rows_facts h
  obtain ⟨g1, g2, g3, g4, g5⟩ := arrayOk_t h
  have hl := flat_len (prod t).toNat (rotN m.toNat t d (prod t).toNat n) (rotN_row f2)
  rw [rotN_length, f2] at hl
  refine ⟨?_, hl⟩
  unfold arrayOk
  rw [Bool.and_eq_true, decide_eq_true_iff]
  exact ⟨by rw [hl]; exact g1, rotN_ok g2⟩
theorem tm (x : Int) (N : Nat) (h : 0 < N) (h3 : N ≤ 300) : Int.tmod (wrap64 (Int.tmod x (N : Int) + (N : Int))) (N : Int) = x % (N : Int) := by
  have h1 := Int.emod_nonneg x (show (N : Int) ≠ 0 by omega)
  have h2 := Int.emod_lt_of_pos x (show (0 : Int) < N by omega)
  have e := Int.tmod_eq_emod (a := x) (b := (N : Int))
  rw [e]
  split
  · rw [w64 (by omega) (by omega), Int.tmod_eq_emod_of_nonneg (by omega)]
    have e2 : x % (N : Int) - ((0 : Nat) : Int) + (N : Int) = x % (N : Int) + 1 * (N : Int) := by omega
    rw [e2, Int.add_mul_emod_self_right, Int.emod_eq_of_lt h1 h2]
  · have e2 : x % (N : Int) - ((N : Int).natAbs : Int) + (N : Int) = x % (N : Int) := by omega
    rw [e2, w64 (by omega) (by omega), Int.tmod_eq_emod_of_nonneg h1, Int.emod_eq_of_lt h1 h2]
theorem rot_impl (n : Int) (N i : Nat) (h : 0 < N) (h3 : N ≤ 300) (hi : i < N) (hn : -1000000000000 ≤ n ∧ n ≤ 1000000000000) : Int.tmod (wrap64 (Int.tmod (wrap64 ((i : Int) + n)) (N : Int) + (N : Int))) (N : Int) = ((rotI N n i : Nat) : Int) := by
  rw [w64 (x := (i : Int) + n) (by omega) (by omega), tm _ N h h3]
  unfold rotI
  rw [Int.toNat_of_nonneg (Int.emod_nonneg _ (by omega))]
theorem rot_spec (n : Int) (N i : Nat) (h : 0 < N) (h3 : N ≤ 300) (hi : i < N) : Int.tmod (wrap64 ((i : Int) + n % (N : Int))) (N : Int) = ((rotI N n i : Nat) : Int) := by
  have h1 := Int.emod_nonneg n (show (N : Int) ≠ 0 by omega)
  have h2 := Int.emod_lt_of_pos n (show (0 : Int) < N by omega)
  rw [w64 (by omega) (by omega), Int.tmod_eq_emod_of_nonneg (by omega)]
  unfold rotI
  rw [Int.toNat_of_nonneg (Int.emod_nonneg _ (by omega))]
  have e := Int.mul_ediv_add_emod n (N : Int)
  have e2 : (i : Int) + n = ((i : Int) + n % (N : Int)) + n / (N : Int) * (N : Int) := by rw [Int.mul_comm (n / (N : Int))]; omega
  rw [e2, Int.add_mul_emod_self_right]
def rotate (a b c d : List Int) : List Int × List Int × Int :=
  if arrayOk a b = true ∧ arrayOk c d = true then
    (if b.length = 1 then
      (match c with
        | [] => ([], d, 0)
        | m :: t => if m = 0 then (m :: t, d, 0) else (m :: t, flat (rotN m.toNat t d (prod t).toNat (rd b 0)), 0))
    else ([], [], 3))
  else ([], [], 1)
theorem rotate_len (a b c d : List Int) (hc : c.length ≤ 1048576) (hd : d.length ≤ 1048576) : (rotate a b c d).1.length ≤ 1048576 ∧ (rotate a b c d).2.1.length ≤ 1048576 := by
  unfold rotate
  by_cases h : arrayOk a b = true ∧ arrayOk c d = true
  · rw [if_pos h]
    by_cases h2 : b.length = 1
    · rw [if_pos h2]
      cases c with
      | nil => exact ⟨by simp, hd⟩
      | cons m t =>
        dsimp only
        by_cases h3 : m = 0
        · rw [if_pos h3]; exact ⟨hc, hd⟩
        · rw [if_neg h3]; exact ⟨hc, by rw [(rot_flat_ok h.2).2]; exact hd⟩
    · rw [if_neg h2]; simp
  · rw [if_neg h]; simp

theorem impl_within_eq (a b c : Int) : impl_within.f a b c = some (decide (b ≤ a ∧ a ≤ c)) := by
  unfold impl_within.f
  by_cases h : a ≥ b
  · rw [if_pos h]; congr 1; rw [Bool.eq_iff_iff, decide_eq_true_iff, decide_eq_true_iff]; omega
  · rw [if_neg h]; congr 1; symm; rw [decide_eq_false_iff_not]; omega

theorem impl_SizeOf_l0 (l : List Int) (hl : ¬ 3 < l.length) (d : Nat) : ∀ (i : Nat), i + d = l.length → inR (l.take i) = true → Ev (fun k => impl_SizeOf.l0 k (prod (l.take i)) l (l.length : Int) (i : Int)) (if inR l = true then (if prod l > 300 then -1 else prod l) else -1) := by
  induction d with
  | zero =>
    intro i hi hr
    have e : l.take i = l := List.take_of_length_le (by omega)
    rw [e] at hr ⊢
    rw [if_pos hr]
    refine Ev.step (f := fun _ => some (if prod l > 300 then -1 else prod l)) (fun k => ?_) (Ev.now _)
    simp only [impl_SizeOf.l0]; rw [if_neg (by omega)]
    by_cases h : prod l > 300
    · rw [if_pos h, if_pos h]
    · rw [if_neg h, if_neg h]
  | succ d ih =>
    intro i hi hr
    have hlt : i < l.length := by omega
    by_cases hx : 0 ≤ l[i] ∧ l[i] ≤ 300
    · have hr' := (inR_take_succ l i hlt).2 ⟨hr, hx⟩
      refine Ev.step (f := fun k => impl_SizeOf.l0 k (prod (l.take (i + 1))) l (l.length : Int) ((i + 1 : Nat) : Int)) (fun k => ?_) (ih (i + 1) (by omega) hr')
      simp only [impl_SizeOf.l0]
      rw [if_pos (by omega), if_pos (by omega), if_pos (by omega), impl_within_eq, rdn l i hlt, decide_eq_true hx]
      simp only [Option.bind_some, if_true]
      have hp := prod_take_le l (i + 1) hl hr'
      rw [w64s i (by omega), ← prod_take_succ l i hlt, w64 (by omega) (by omega)]
    · rw [if_neg (by rw [inR_not i hlt hx]; simp)]
      refine Ev.step (f := fun _ => some (-1)) (fun k => ?_) (Ev.now _)
      simp only [impl_SizeOf.l0]
      rw [if_pos (by omega), if_pos (by omega), if_pos (by omega), impl_within_eq, rdn l i hlt, decide_eq_false hx]
      rfl
theorem impl_SizeOf_ev (l : List Int) : Ev (fun k => impl_SizeOf.f k l) (szOf l) := by
  unfold impl_SizeOf.f szOf
  by_cases h : 3 < l.length
  · rw [if_pos h]; exact evPos (by omega) (Ev.now _)
  · rw [if_neg h]
    refine evNeg (by omega) ?_
    have := impl_SizeOf_l0 l h l.length 0 (by omega) (by simp [inR])
    simpa only [List.take_zero, prod, Int.ofNat_zero, Int.natCast_zero] using this

theorem impl_NumOk_eq (a : Int) : impl_NumOk.f a = some (okN a) := by
  unfold impl_NumOk.f; rw [impl_within_eq]; rfl

def p_ArrayOk1 (x : Int) : Bool := !okN x
theorem lit_ArrayOk1_eq (x : Int) : impl_ArrayOk_lit1.f x = some (p_ArrayOk1 x) := by
  unfold impl_ArrayOk_lit1.f; rw [impl_NumOk_eq]; rfl

theorem slices_IndexFunc_ArrayOk1_l0 (l : List Int) (hl : l.length ≤ 1048576) (d : Nat) : ∀ (i : Nat), i + d = l.length → (l.take i).all (fun x => !p_ArrayOk1 x) = true → ∃ r, Ev (fun k => slices_IndexFunc_ArrayOk1.l0 k l (l.length : Int) (i : Int)) r ∧ decide (r ≥ 0) = l.any p_ArrayOk1 := by
  induction d with
  | zero =>
    intro i hi ht
    refine ⟨-1, Ev.step (f := fun _ => some (-1)) (fun k => ?_) (Ev.now _), ?_⟩
    · simp only [slices_IndexFunc_ArrayOk1.l0]; rw [if_neg (by omega)]
    · have e : l.take i = l := List.take_of_length_le (by omega)
      rw [e] at ht
      symm; rw [show decide ((-1 : Int) ≥ 0) = false by decide, List.any_eq_false]
      intro x hx
      have := List.all_eq_true.1 ht x hx
      simpa using this
  | succ d ih =>
    intro i hi ht
    have hlt : i < l.length := by omega
    by_cases hx : p_ArrayOk1 l[i] = true
    · refine ⟨(i : Int), Ev.step (f := fun _ => some (i : Int)) (fun k => ?_) (Ev.now _), ?_⟩
      · simp only [slices_IndexFunc_ArrayOk1.l0]
        rw [if_pos (by omega), if_pos (by omega), if_pos (by omega), lit_ArrayOk1_eq, rdn l i hlt]; simp only [Option.bind_some]; rw [if_pos hx]
      · rw [decide_eq_true (by omega)]; symm; rw [List.any_eq_true]; exact ⟨_, List.getElem_mem hlt, hx⟩
    · obtain ⟨r, hr, h2⟩ := ih (i + 1) (by omega) (by rw [List.take_succ_eq_append_getElem hlt, List.all_append, ht]; simp [hx])
      refine ⟨r, Ev.step (f := fun k => slices_IndexFunc_ArrayOk1.l0 k l (l.length : Int) ((i + 1 : Nat) : Int)) (fun k => ?_) hr, h2⟩
      simp only [slices_IndexFunc_ArrayOk1.l0]
      rw [if_pos (by omega), if_pos (by omega), if_pos (by omega), lit_ArrayOk1_eq, rdn l i hlt]; simp only [Option.bind_some]; rw [if_neg hx, w64s i (by omega)]
theorem slices_ContainsFunc_ArrayOk1_ev (l : List Int) (hl : l.length ≤ 1048576) : Ev (fun k => slices_ContainsFunc_ArrayOk1.f k l) (l.any p_ArrayOk1) := by
  unfold slices_ContainsFunc_ArrayOk1.f slices_IndexFunc_ArrayOk1.f
  obtain ⟨r, hr, h⟩ := slices_IndexFunc_ArrayOk1_l0 l hl l.length 0 (by omega) (by simp)
  exact Ev.bind hr (evSome h)

theorem all_okN (d : List Int) : (!d.any p_ArrayOk1) = d.all okN := by
  rw [List.not_any_eq_all_not]; congr 1; funext x; simp [p_ArrayOk1]
theorem impl_ArrayOk_ev (s d : List Int) (hd : d.length ≤ 1048576) : Ev (fun k => impl_ArrayOk.f k s d) (arrayOk s d) := by
  unfold impl_ArrayOk.f arrayOk
  refine Ev.bind (impl_SizeOf_ev s) ?_
  by_cases h : (d.length : Int) = szOf s
  · exact evPos h (Ev.bind (slices_ContainsFunc_ArrayOk1_ev d hd) (evSome (by rw [all_okN, decide_eq_true h]; rfl)))
  · exact evNeg h (evSome (by rw [decide_eq_false h]; rfl))

theorem impl_copyArray_eq (s d : List Int) (hs : s.length ≤ 1048576) (hd : d.length ≤ 1048576) : impl_copyArray.f s d = some (s, d) := by
  unfold impl_copyArray.f
  rw [if_pos (by rw [List.length_nil]; omega), if_pos (by rw [List.length_nil]; omega)]; rfl

theorem impl_Rows_l0 (n : Int) (t d : List Int) (N M : Nat) (hn : n = (N : Int)) (hd : N * M = d.length) (hN : N ≤ 300) (hz : 0 < N → szOf t = (M : Int)) (h3 : d.length ≤ 300) (ht : t.length ≤ 2) (c : Nat) : ∀ (i : Nat) (o : List S26), i + c = N → o = (List.range i).map (row t d M) → Ev (fun k => impl_Rows.l0 k (szOf t) o (i : Int) (n :: t) d) (rowsN N t d M) := by
  induction c with
  | zero =>
    intro i o hi ho
    refine Ev.step (fun k => by rw [impl_Rows.l0]) ?_
    refine evPos (by simp only [List.length_cons]; omega) (evNeg ?_ (evSome ?_))
    · show ¬ (i : Int) < n; omega
    · rw [ho, show i = N by omega]; rfl
  | succ c ih =>
    intro i o hi ho
    have h1 : (i + 1) * M ≤ N * M := Nat.mul_le_mul_right _ (by omega)
    have h2 : (i + 1) * M = i * M + M := Nat.succ_mul i M
    have hol : o.length = i := by rw [ho]; simp
    refine Ev.step (fun k => by rw [impl_Rows.l0]) ?_
    refine evPos (by simp only [List.length_cons]; omega) (evPos ?_ (evPos (by simp only [List.length_cons]; omega) ?_))
    · show (i : Int) < n; omega
    rw [hz (by omega), w64s i (by omega), wmul i M (by omega), wmul (i + 1) M (by omega), Int.toNat_natCast, Int.toNat_natCast]
    refine evPos (by omega) (evPos (by omega) (evPos (by omega) (evBind0 (impl_copyArray_eq _ _ (by simp; omega) (by simp; omega)) ?_)))
    refine evPos (by omega) ?_
    rw [← hz (by omega)]
    exact ih (i + 1) _ (by omega) (by rw [ho, List.range_succ, List.map_append]; rfl)
theorem impl_Rows_ev (s d : List Int) (hd : d.length ≤ 1048576) : Ev (fun k => impl_Rows.f k s d) (rows s d) := by
  unfold impl_Rows.f
  refine Ev.bind (impl_ArrayOk_ev s d hd) ?_
  have hbad : Ev (fun k => impl_Rows.j0 k true s d) ([] : List S26) := Ev.step (fun k => by rw [impl_Rows.j0]) (evPos rfl (Ev.now _))
  cases s with
  | nil =>
    by_cases h : arrayOk [] d = true
    · exact evPos h hbad
    · exact evNeg h hbad
  | cons n t =>
    rw [rows_cons]
    by_cases h : arrayOk (n :: t) d = true
    · obtain ⟨f1, f2, f3, f4, f5, f6⟩ := rows_facts h
      rw [if_pos h]
      have e : (((n :: t).length : Int) == 0) = false := by
        rw [beq_eq_false_iff_ne]; simp only [List.length_cons]; omega
      refine evPos h ?_
      rw [e]
      refine Ev.step (fun k => by rw [impl_Rows.j0]) ?_
      refine evNeg (by simp) (evPos (by simp only [List.length_cons]; omega) (Ev.bind (impl_SizeOf_ev t) ?_))
      exact impl_Rows_l0 n t d n.toNat (prod t).toNat (Int.toNat_of_nonneg f1).symm f2 f3 f4 f5 f6 n.toNat 0 [] (by omega) rfl
    · rw [if_neg h]; exact evNeg h hbad

theorem impl_joined_l0 (rs : List S26) (s : List Int) (M : Nat) (hM : ∀ r ∈ rs, r.f1.length = M) (hl : rs.length * M ≤ 300) (h3 : rs.length ≤ 300) (n : Nat) : ∀ (i : Nat), i + n = rs.length → Ev (fun k => impl_joined.l0 k rs (rs.length : Int) (i : Int) s (flat (rs.take i))) (if arrayOk s (flat rs) = true then (s, flat rs, 0) else ([], [], 6)) := by
  have hf : (flat rs).length ≤ 1048576 := by rw [flat_len M rs hM]; omega
  induction n with
  | zero =>
    intro i hi
    rw [List.take_of_length_le (by omega)]
    refine Ev.step (fun k => by rw [impl_joined.l0]) ?_
    refine evNeg (by omega) (Ev.bind (impl_ArrayOk_ev s (flat rs) hf) ?_)
    by_cases h : arrayOk s (flat rs) = true
    · exact evEq (evPos h (Ev.now _)) (if_pos h).symm
    · exact evEq (evNeg h (Ev.now _)) (if_neg h).symm
  | succ n ih =>
    intro i hi
    have hlt : i < rs.length := by omega
    have ih' := ih (i + 1) (by omega)
    rw [flat_take rs i hlt] at ih'
    have h1 := flat_len M (rs.take i) (fun r hr => hM r (List.mem_of_mem_take hr))
    rw [List.length_take, Nat.min_eq_left (by omega)] at h1
    have h2 : i * M ≤ rs.length * M := Nat.mul_le_mul_right _ (by omega)
    have h4 : M ≤ rs.length * M := Nat.le_mul_of_pos_left _ (by omega)
    have h5 := hM rs[i] (List.getElem_mem hlt)
    refine Ev.step (fun k => by rw [impl_joined.l0]) ?_
    refine evPos (by omega) (evPos (by omega) (evPos (by omega) ?_))
    rw [rdT rs i hlt, w64s i (by omega)]
    exact evPos (by omega) ih'
theorem impl_joined_ev (rs : List S26) (t : List Int) (M : Nat) (hM : ∀ r ∈ rs, r.f1.length = M) (hl : rs.length * M ≤ 300) (h3 : rs.length ≤ 300) (ht : t.length ≤ 300) : Ev (fun k => impl_joined.f k rs t) (if arrayOk ((rs.length : Int) :: t) (flat rs) = true then ((rs.length : Int) :: t, flat rs, 0) else ([], [], 6)) := by
  unfold impl_joined.f
  refine evLet ?_
  refine evPos (by simp only [List.length_cons, List.length_nil]; omega) ?_
  exact impl_joined_l0 rs ((rs.length : Int) :: t) M hM hl h3 rs.length 0 (by omega)

theorem impl_single_ev (a b c d : List Int) (hb : b.length ≤ 1048576) (hd : d.length ≤ 1048576) : Ev (fun k => impl_single.f k a b c d) (if arrayOk a b = true ∧ arrayOk c d = true then (if b.length = 1 then (rd b 0, 0) else (0, 3)) else (0, 1)) := by
  unfold impl_single.f
  refine Ev.bind (impl_ArrayOk_ev a b hb) ?_
  have hbad : Ev (fun k => impl_single.j0 k true a b) (0, 1) := Ev.step (fun k => by rw [impl_single.j0]) (evPos rfl (Ev.now _))
  by_cases h1 : arrayOk a b = true
  · refine evPos h1 (Ev.bind (impl_ArrayOk_ev c d hd) ?_)
    by_cases h2 : arrayOk c d = true
    · rw [h2]
      refine evEq ?_ (if_pos (And.intro h1 rfl)).symm
      refine Ev.step (fun k => by rw [impl_single.j0]) (evNeg (by simp) ?_)
      by_cases h3 : b.length = 1
      · exact evEq (evPos (by omega) (evPos (by omega) (Ev.now _))) (if_pos h3).symm
      · exact evEq (evNeg (by omega) (Ev.now _)) (if_neg h3).symm
    · rw [Bool.eq_false_iff.2 h2]
      exact evEq hbad (if_neg (fun hh : _ ∧ _ => absurd hh.2 (by simp))).symm
  · exact evEq (evNeg h1 hbad) (if_neg (fun hh : _ ∧ _ => h1 hh.1)).symm

theorem impl_Rotate_l0 (m : Int) (t d : List Int) (n : Int) (h : arrayOk (m :: t) d = true) (hm : ¬ m = 0) (hn : -1000000000000 ≤ n ∧ n ≤ 1000000000000) (q : Nat) : ∀ (i : Nat) (o : List S26), i + q = m.toNat → o = (List.range i).map (fun j => row t d (prod t).toNat (rotI m.toNat n j)) → Ev (fun k => impl_Rotate.l0 k n (rowsN m.toNat t d (prod t).toNat) (m.toNat : Int) o (m.toNat : Int) (i : Int) (m :: t) d) (m :: t, flat (rotN m.toNat t d (prod t).toNat n), 0) := by
  obtain ⟨f1, f2, f3, f4, f5, f6⟩ := rows_facts h
  have hN : 0 < m.toNat := by omega
  have hr := rowsN_length m.toNat t d (prod t).toNat
  have hR := rotN_length m.toNat t d (prod t).toNat n
  have hA := (rot_flat_ok (n := n) h).1
  induction q with
  | zero =>
    intro i o hi ho
    have e : o = rotN m.toNat t d (prod t).toNat n := by rw [ho, show i = m.toNat by omega]; rfl
    refine Ev.step (fun k => by rw [impl_Rotate.l0]) ?_
    refine evNeg (by omega) (evPos (by simp only [List.length_cons]; omega) ?_)
    rw [e, List.drop_succ_cons, List.drop_zero]
    have hj := impl_joined_ev (rotN m.toNat t d (prod t).toNat n) t (prod t).toNat (rotN_row f2) (by rw [hR, f2]; omega) (by omega) (by omega)
    rw [hR, Int.toNat_of_nonneg f1, if_pos hA] at hj
    exact Ev.bind hj (Ev.now _)
  | succ q ih =>
    intro i o hi ho
    have hol : o.length = i := by rw [ho]; simp
    have hlt := rotI_lt m.toNat n i hN
    have ih' := ih (i + 1) (o ++ [row t d (prod t).toNat (rotI m.toNat n i)]) (by omega) (by rw [ho, List.range_succ, List.map_append]; rfl)
    refine Ev.step (fun k => by rw [impl_Rotate.l0]) ?_
    refine evPos (by omega) (evNeg (by omega) ?_)
    rw [rot_impl n m.toNat i hN f3 (by omega) hn, w64s i (by omega), rowsN_rd m.toNat t d (prod t).toNat _ hlt]
    exact evPos (by omega) (evPos (by omega) (evPos (by omega) ih'))
theorem impl_Rotate_ev (a b c d : List Int) (hb : b.length ≤ 1048576) (hc : c.length ≤ 1048576) (hd : d.length ≤ 1048576) : Ev (fun k => impl_Rotate.f k a b c d) (rotate a b c d) := by
  unfold impl_Rotate.f rotate
  refine Ev.bind (impl_single_ev a b c d hb hd) ?_
  by_cases h : arrayOk a b = true ∧ arrayOk c d = true
  · rw [if_pos h, if_pos h]
    by_cases h2 : b.length = 1
    · rw [if_pos h2, if_pos h2]
      refine evPos rfl (Ev.bind (impl_Rows_ev c d hd) ?_)
      cases c with
      | nil => exact evPos (by simp [rows]) (evBind0 (impl_copyArray_eq [] d hc hd) (Ev.now _))
      | cons m t =>
        obtain ⟨f1, f2, f3, f4, f5, f6⟩ := rows_facts h.2
        rw [rows_cons, if_pos h.2, rowsN_length]
        by_cases h3 : m = 0
        · exact evEq (evPos (by omega) (evBind0 (impl_copyArray_eq (m :: t) d hc hd) (Ev.now _))) (if_pos h3).symm
        · have hn : okN (rd b 0) = true := by
            rw [show (0 : Int) = ((0 : Nat) : Int) by rfl, rdn b 0 (by omega)]
            exact (arrayOk_t h.1).2.1 _ (List.getElem_mem (by omega))
          refine evEq (evNeg (by omega) ?_) (if_neg h3).symm
          exact impl_Rotate_l0 m t d (rd b 0) h.2 h3 (okN_t hn) m.toNat 0 [] (by omega) rfl
    · rw [if_neg h2, if_neg h2]
      exact evNeg (by decide) (Ev.now _)
  · rw [if_neg h, if_neg h]
    exact evNeg (by decide) (Ev.now _)

theorem spec_l1In_eq (a b c : Int) : spec_l1In.f a b c = some (decide (b ≤ a ∧ a ≤ c)) := by
  unfold spec_l1In.f
  by_cases h : a ≥ b
  · rw [if_pos h]; congr 1; rw [Bool.eq_iff_iff, decide_eq_true_iff, decide_eq_true_iff]; omega
  · rw [if_neg h]; congr 1; symm; rw [decide_eq_false_iff_not]; omega

theorem spec_SizeOf_l1 (l : List Int) (hl : ¬ 3 < l.length) (z : Bool) (hr : inR l = true) (hz : z = true → prod l = 0) (d : Nat) : ∀ (i : Nat), i + d = l.length → Ev (fun k => spec_SizeOf.l1 k l z (prod (l.take i)) (i : Int)) (if prod l > 300 then -1 else prod l) := by
  induction d with
  | zero =>
    intro i hi
    have e : l.take i = l := List.take_of_length_le (by omega)
    rw [e]
    refine Ev.step (f := fun _ => some (if prod l > 300 then -1 else prod l)) (fun k => ?_) (Ev.now _)
    simp only [spec_SizeOf.l1]; rw [if_neg (by omega)]
    by_cases h : prod l > 300
    · rw [if_pos h, if_pos h]
      rw [if_neg (by intro hh; have := hz hh; omega)]
    · rw [if_neg h, if_neg h]
  | succ d ih =>
    intro i hi
    have hlt : i < l.length := by omega
    have hr' := inR_take (i + 1) hr
    refine Ev.step (f := fun k => spec_SizeOf.l1 k l z (prod (l.take (i + 1))) ((i + 1 : Nat) : Int)) (fun k => ?_) (ih (i + 1) (by omega))
    simp only [spec_SizeOf.l1]
    have hp := prod_take_le l (i + 1) hl hr'
    rw [if_pos (by omega), if_pos (by omega), rdn l i hlt, w64s i (by omega), ← prod_take_succ l i hlt, w64 (by omega) (by omega)]
theorem prod_zero (l : List Int) (h : l.any (· == 0) = true) : prod l = 0 := by
  induction l with
  | nil => simp at h
  | cons a l ih =>
    rw [List.any_cons, Bool.or_eq_true] at h
    rcases h with h | h
    · have : a = 0 := by simpa using h
      rw [prod, this, Int.zero_mul]
    · rw [prod, ih h, Int.mul_zero]
theorem spec_SizeOf_l0 (l : List Int) (hl : ¬ 3 < l.length) (d : Nat) : ∀ (i : Nat) (z : Bool), i + d = l.length → inR (l.take i) = true → z = (l.take i).any (· == 0) → Ev (fun k => spec_SizeOf.l0 k l z (i : Int)) (if inR l = true then (if prod l > 300 then -1 else prod l) else -1) := by
  induction d with
  | zero =>
    intro i z hi hr hz
    have e : l.take i = l := List.take_of_length_le (by omega)
    rw [e] at hr hz
    rw [if_pos hr]
    refine Ev.step (f := fun k => spec_SizeOf.l1 k l z 1 0) (fun k => ?_) ?_
    · simp only [spec_SizeOf.l0]; rw [if_neg (by omega)]
    · exact spec_SizeOf_l1 l hl z hr (fun h => prod_zero l (by rw [← hz]; exact h)) l.length 0 (by omega)
  | succ d ih =>
    intro i z hi hr hz
    have hlt : i < l.length := by omega
    by_cases hx : 0 ≤ l[i] ∧ l[i] ≤ 300
    · have hr' := (inR_take_succ l i hlt).2 ⟨hr, hx⟩
      refine Ev.step (f := fun k => spec_SizeOf.l0 k l ((l.take (i + 1)).any (· == 0)) ((i + 1 : Nat) : Int)) (fun k => ?_) (ih (i + 1) _ (by omega) hr' rfl)
      simp only [spec_SizeOf.l0]
      rw [if_pos (by omega), if_pos (by omega), spec_l1In_eq, rdn l i hlt, decide_eq_true hx]
      simp only [Option.bind_some, if_true]
      rw [w64s i (by omega), List.take_succ_eq_append_getElem hlt, List.any_append, ← hz]
      cases z with
      | true => simp
      | false => simp
    · rw [if_neg (by rw [inR_not i hlt hx]; simp)]
      refine Ev.step (f := fun _ => some (-1)) (fun k => ?_) (Ev.now _)
      simp only [spec_SizeOf.l0]
      rw [if_pos (by omega), if_pos (by omega), spec_l1In_eq, rdn l i hlt, decide_eq_false hx]
      rfl
theorem spec_SizeOf_ev (l : List Int) : Ev (fun k => spec_SizeOf.f k l) (szOf l) := by
  unfold spec_SizeOf.f szOf
  by_cases h : 3 < l.length
  · rw [if_pos h]; exact evPos (by omega) (Ev.now _)
  · rw [if_neg h]
    refine evNeg (by omega) ?_
    exact spec_SizeOf_l0 l h l.length 0 false (by omega) (by simp [inR]) (by simp)

theorem spec_NumOk_eq (a : Int) : spec_NumOk.f a = some (okN a) := by
  unfold spec_NumOk.f; rw [spec_l1In_eq]; rfl

theorem spec_ArrayOk_l0 (s l : List Int) (hl : l.length ≤ 1048576) (d : Nat) : ∀ (i : Nat), i + d = l.length → (l.take i).all okN = true → Ev (fun k => spec_ArrayOk.l0 k (i : Int) s l) (l.all okN) := by
  induction d with
  | zero =>
    intro i hi ht
    refine Ev.step (f := fun _ => some true) (fun k => ?_) (evSome ?_)
    · simp only [spec_ArrayOk.l0]; rw [if_neg (by omega)]
    · rw [List.take_of_length_le (by omega)] at ht; exact ht.symm
  | succ d ih =>
    intro i hi ht
    have hlt : i < l.length := by omega
    by_cases hx : okN l[i] = true
    · refine Ev.step (f := fun k => spec_ArrayOk.l0 k ((i + 1 : Nat) : Int) s l) (fun k => ?_) (ih (i + 1) (by omega) (by rw [List.take_succ_eq_append_getElem hlt, List.all_append, ht]; simp [hx]))
      simp only [spec_ArrayOk.l0]
      rw [if_pos (by omega), if_pos (by omega), spec_NumOk_eq, rdn l i hlt]; simp only [Option.bind_some]; rw [if_pos hx, w64s i (by omega)]
    · refine Ev.step (f := fun _ => some false) (fun k => ?_) (evSome ?_)
      · simp only [spec_ArrayOk.l0]
        rw [if_pos (by omega), if_pos (by omega), spec_NumOk_eq, rdn l i hlt]; simp only [Option.bind_some]; rw [if_neg hx]
      · symm; rw [List.all_eq_false]; exact ⟨_, List.getElem_mem hlt, hx⟩
theorem spec_ArrayOk_ev (s d : List Int) (hd : d.length ≤ 1048576) : Ev (fun k => spec_ArrayOk.f k s d) (arrayOk s d) := by
  unfold spec_ArrayOk.f arrayOk
  refine Ev.bind (spec_SizeOf_ev s) ?_
  by_cases h : szOf s = (d.length : Int)
  · refine evPos h (evEq (spec_ArrayOk_l0 s d hd d.length 0 (by omega) (by simp)) ?_)
    rw [decide_eq_true h.symm]; rfl
  · exact evNeg h (evSome (by rw [decide_eq_false (fun e => h e.symm)]; rfl))

theorem spec_l3Rows_l0 (n : Int) (t d : List Int) (N M : Nat) (hn : n = (N : Int)) (hd : N * M = d.length) (hN : N ≤ 300) (hz : 0 < N → szOf t = (M : Int)) (h3 : d.length ≤ 300) (ht : t.length ≤ 2) (c : Nat) : ∀ (i : Nat) (o : List S26), i + c = N → o = (List.range i).map (row t d M) → Ev (fun k => spec_l3Rows.l0 k o (szOf t) (i : Int) (n :: t) d) (rowsN N t d M) := by
  induction c with
  | zero =>
    intro i o hi ho
    refine Ev.step (fun k => by rw [spec_l3Rows.l0]) ?_
    refine evPos (by simp only [List.length_cons]; omega) (evNeg ?_ (evSome ?_))
    · show ¬ (i : Int) < n; omega
    · rw [ho, show i = N by omega]; rfl
  | succ c ih =>
    intro i o hi ho
    have h1 : (i + 1) * M ≤ N * M := Nat.mul_le_mul_right _ (by omega)
    have h2 : (i + 1) * M = i * M + M := Nat.succ_mul i M
    have hol : o.length = i := by rw [ho]; simp
    have hiN : (i : Int) < n := by omega
    have hL : t.length < 17592186044416 := by omega
    have hO : o.length < 2932031007402 := by omega
    have hN0 : 0 < N := by omega
    have hM1 : i * M ≤ 1048576 := by omega
    have q1 : (0 : Int) ≤ ((i * M : Nat) : Int) := by omega
    have q2 : ((i * M : Nat) : Int) ≤ (((i + 1) * M : Nat) : Int) := by omega
    have q3 : (((i + 1) * M : Nat) : Int) ≤ (d.length : Int) := by omega
    have q4 : (i + 1) * M - i * M < 17592186044416 := by omega
    have q5 : (i + 1) * M ≤ d.length := by omega
    have q6 : wrap64 ((i : Int) + 1) = ((i + 1 : Nat) : Int) ∧ (i + 1) + c = N := ⟨w64s i (by omega), by omega⟩
    have hw : wrap64 (((i * M : Nat) : Int) + (M : Int)) = (((i + 1) * M : Nat) : Int) := by
      rw [h2] at h1 ⊢
      rw [w64 (by omega) (by omega), Int.natCast_add]
    have e1 : wrap64 ((i : Int) * szOf t) = ((i * M : Nat) : Int) := by rw [hz hN0, wmul i M hM1]
    have e2 : wrap64 (wrap64 ((i : Int) * szOf t) + szOf t) = (((i + 1) * M : Nat) : Int) := by rw [e1, hz hN0, hw]
    refine Ev.step (fun k => by rw [spec_l3Rows.l0]) ?_
    simp only [Option.bind_some, List.length_nil, List.nil_append, Nat.zero_add, List.drop_succ_cons, List.drop_zero]
    refine evPos (by simp only [List.length_cons]; exact Int.natCast_pos.2 (Nat.succ_pos _)) ?_
    refine evPos (show (i : Int) < n from hiN) ?_
    refine evPos (by simp only [List.length_cons]; exact Int.natCast_pos.2 (Nat.succ_pos _)) ?_
    refine evPos hL ?_
    refine evPos (by rw [e1]; exact q1) ?_
    refine evPos (by rw [e2, e1]; exact q2) ?_
    refine evPos (by rw [e2]; exact q3) ?_
    refine evPos (by rw [e2, e1, Int.toNat_natCast, Int.toNat_natCast, List.length_drop, List.length_take, Nat.min_eq_left q5]; exact q4) ?_
    refine evPos hO ?_
    rw [e2, e1, Int.toNat_natCast, Int.toNat_natCast, q6.1]
    exact ih (i + 1) _ q6.2 (by rw [ho, List.range_succ, List.map_append]; rfl)
theorem spec_l3Rows_ev (n : Int) (t d : List Int) (h : arrayOk (n :: t) d = true) : Ev (fun k => spec_l3Rows.f k (n :: t) d) (rowsN n.toNat t d (prod t).toNat) := by
  obtain ⟨f1, f2, f3, f4, f5, f6⟩ := rows_facts h
  unfold spec_l3Rows.f
  refine evPos (by simp only [List.length_cons]; omega) (Ev.bind (spec_SizeOf_ev t) ?_)
  exact spec_l3Rows_l0 n t d n.toNat (prod t).toNat (Int.toNat_of_nonneg f1).symm f2 f3 f4 f5 f6 n.toNat 0 [] (by omega) rfl

theorem spec_l3Copy_eq (s d : List Int) (hs : s.length ≤ 1048576) (hd : d.length ≤ 1048576) : spec_l3Copy.f s d = some (s, d) := by
  unfold spec_l3Copy.f
  rw [Option.bind_some, if_pos (by rw [List.length_nil]; omega), Option.bind_some, if_pos (by rw [List.length_nil]; omega)]; rfl

theorem spec_l5Rows_l0 (rs : List S26) (s : List Int) (M : Nat) (hM : ∀ r ∈ rs, r.f1.length = M) (hl : rs.length * M ≤ 300) (h3 : rs.length ≤ 300) (n : Nat) : ∀ (i : Nat), i + n = rs.length → Ev (fun k => spec_l5Rows.l0 k rs (i : Int) s (flat (rs.take i))) (s, flat rs) := by
  induction n with
  | zero =>
    intro i hi
    rw [List.take_of_length_le (by omega)]
    refine Ev.step (fun k => by rw [spec_l5Rows.l0]) ?_
    exact evNeg (by omega) (Ev.now _)
  | succ n ih =>
    intro i hi
    have hlt : i < rs.length := by omega
    have ih' := ih (i + 1) (by omega)
    rw [flat_take rs i hlt] at ih'
    have h1 := flat_len M (rs.take i) (fun r hr => hM r (List.mem_of_mem_take hr))
    rw [List.length_take, Nat.min_eq_left (by omega)] at h1
    have h2 : i * M ≤ rs.length * M := Nat.mul_le_mul_right _ (by omega)
    have h4 : M ≤ rs.length * M := Nat.le_mul_of_pos_left _ (by omega)
    have h5 := hM rs[i] (List.getElem_mem hlt)
    refine Ev.step (fun k => by rw [spec_l5Rows.l0]) ?_
    refine evPos (by omega) (evPos (by omega) ?_)
    rw [rdT rs i hlt, w64s i (by omega)]
    exact evPos (by omega) ih'
theorem spec_l5Rows_ev (rs : List S26) (t : List Int) (M : Nat) (hM : ∀ r ∈ rs, r.f1.length = M) (hl : rs.length * M ≤ 300) (h3 : rs.length ≤ 300) (ht : t.length ≤ 300) : Ev (fun k => spec_l5Rows.f k rs t) ((rs.length : Int) :: t, flat rs) := by
  unfold spec_l5Rows.f
  refine evLet ?_
  refine evPos (by simp only [List.length_cons, List.length_nil]; omega) ?_
  exact spec_l5Rows_l0 rs ((rs.length : Int) :: t) M hM hl h3 rs.length 0 (by omega)

theorem spec_Rotate_l0 (m : Int) (t d : List Int) (n : Int) (h : arrayOk (m :: t) d = true) (hm : ¬ m = 0) (q : Nat) : ∀ (i : Nat) (o : List S26), i + q = m.toNat → o = (List.range i).map (fun j => row t d (prod t).toNat (rotI m.toNat n j)) → Ev (fun k => spec_Rotate.l0 k (rowsN m.toNat t d (prod t).toNat) (m.toNat : Int) (n % (m.toNat : Int)) o (i : Int) (m :: t) d) (m :: t, flat (rotN m.toNat t d (prod t).toNat n), 0) := by
  obtain ⟨f1, f2, f3, f4, f5, f6⟩ := rows_facts h
  have hN : 0 < m.toNat := by omega
  have hr := rowsN_length m.toNat t d (prod t).toNat
  have hR := rotN_length m.toNat t d (prod t).toNat n
  induction q with
  | zero =>
    intro i o hi ho
    have e : o = rotN m.toNat t d (prod t).toNat n := by rw [ho, show i = m.toNat by omega]; rfl
    refine Ev.step (fun k => by rw [spec_Rotate.l0]) ?_
    refine evNeg (by omega) (evPos (by simp only [List.length_cons]; omega) ?_)
    rw [e, List.drop_succ_cons, List.drop_zero]
    have hj := spec_l5Rows_ev (rotN m.toNat t d (prod t).toNat n) t (prod t).toNat (rotN_row f2) (by rw [hR, f2]; omega) (by omega) (by omega)
    rw [hR, Int.toNat_of_nonneg f1] at hj
    exact Ev.bind hj (Ev.now _)
  | succ q ih =>
    intro i o hi ho
    have hol : o.length = i := by rw [ho]; simp
    have hlt := rotI_lt m.toNat n i hN
    have ih' := ih (i + 1) (o ++ [row t d (prod t).toNat (rotI m.toNat n i)]) (by omega) (by rw [ho, List.range_succ, List.map_append]; rfl)
    refine Ev.step (fun k => by rw [spec_Rotate.l0]) ?_
    refine evPos (by omega) (evNeg (by omega) ?_)
    rw [rot_spec n m.toNat i hN f3 (by omega), w64s i (by omega), rowsN_rd m.toNat t d (prod t).toNat _ hlt]
    exact evPos (by omega) (evPos (by omega) (evPos (by omega) ih'))
theorem spec_Rotate_ev (a b c d : List Int) (hb : b.length ≤ 1048576) (hc : c.length ≤ 1048576) (hd : d.length ≤ 1048576) : Ev (fun k => spec_Rotate.f k a b c d) (rotate a b c d) := by
  unfold spec_Rotate.f rotate
  refine Ev.bind (spec_ArrayOk_ev a b hb) ?_
  have hbad : Ev (fun k => spec_Rotate.j0 k true a b c d) ([], [], 1) := Ev.step (fun k => by rw [spec_Rotate.j0]) (evPos rfl (Ev.now _))
  by_cases h1 : arrayOk a b = true
  · refine evPos h1 (Ev.bind (spec_ArrayOk_ev c d hd) ?_)
    by_cases h2 : arrayOk c d = true
    · have h12 := And.intro h1 h2
      rw [h2]
      refine evEq ?_ (if_pos (And.intro h1 rfl)).symm
      refine Ev.step (fun k => by rw [spec_Rotate.j0]) (evNeg (by simp) ?_)
      by_cases h3 : b.length = 1
      · rw [if_pos h3]
        refine evPos (by omega) ?_
        cases c with
        | nil => exact evPos rfl (evBind0 (spec_l3Copy_eq [] d hc hd) (Ev.now _))
        | cons m t =>
          obtain ⟨f1, f2, f3, f4, f5, f6⟩ := rows_facts h2
          refine evNeg (by simp only [List.length_cons]; omega) (evPos (by simp only [List.length_cons]; omega) ?_)
          have e0 : rd (m :: t) 0 = m := rfl
          rw [e0]
          by_cases h4 : m = 0
          · exact evEq (evPos h4 (evBind0 (spec_l3Copy_eq (m :: t) d hc hd) (Ev.now _))) (if_pos h4).symm
          · refine evEq (evNeg h4 (Ev.bind (spec_l3Rows_ev m t d h2) (evPos (by omega) ?_))) (if_neg h4).symm
            rw [rowsN_length]
            refine evNeg (by omega) ?_
            rw [tm (rd b 0) m.toNat (by omega) f3]
            exact spec_Rotate_l0 m t d (rd b 0) h2 h4 m.toNat 0 [] (by omega) rfl
      · rw [if_neg h3]
        exact evNeg (by omega) (Ev.now _)
    · rw [Bool.eq_false_iff.2 h2]
      exact evEq hbad (if_neg (fun hh : _ ∧ _ => absurd hh.2 (by simp))).symm
  · exact evEq (evNeg h1 hbad) (if_neg (fun hh : _ ∧ _ => h1 hh.1)).symm

theorem laws_sameInts_l0 (l m : List Int) (hl : l.length ≤ 35184372088832) (hm : l.length = m.length) (d : Nat) : ∀ (i : Nat), i + d = l.length → Ev (fun k => laws_sameInts.l0 k l m (i : Int)) (decide (l.drop i = m.drop i)) := by
  induction d with
  | zero =>
    intro i hi
    refine Ev.step (f := fun _ => some (decide (l.drop i = m.drop i))) (fun k => ?_) (Ev.now _)
    simp only [laws_sameInts.l0]
    rw [if_neg (by omega), List.drop_of_length_le (by omega), List.drop_of_length_le (by omega)]; simp
  | succ d ih =>
    intro i hi
    have hlt : i < l.length := by omega
    have hlt' : i < m.length := by omega
    have e1 := List.drop_eq_getElem_cons hlt
    have e2 := List.drop_eq_getElem_cons hlt'
    by_cases hx : l[i] = m[i]
    · refine Ev.step (f := fun k => laws_sameInts.l0 k l m ((i + 1 : Nat) : Int)) (fun k => ?_) (evEq (ih (i + 1) (by omega)) ?_)
      · simp only [laws_sameInts.l0]
        rw [if_pos (by omega), if_pos (by omega), if_pos (by omega), rdn l i hlt, rdn m i hlt', if_pos hx, w64s i (by omega)]
      · rw [e1, e2, hx]; simp only [List.cons.injEq, true_and]
    · refine Ev.step (f := fun _ => some false) (fun k => ?_) (evSome ?_)
      · simp only [laws_sameInts.l0]
        rw [if_pos (by omega), if_pos (by omega), if_pos (by omega), rdn l i hlt, rdn m i hlt', if_neg hx]
      · rw [e1, e2]; symm; rw [decide_eq_false_iff_not]; intro h; exact hx (List.cons.inj h).1
theorem laws_sameInts_ev (l m : List Int) (hl : l.length ≤ 35184372088832) : Ev (fun k => laws_sameInts.f k l m) (decide (l = m)) := by
  unfold laws_sameInts.f
  by_cases h : l.length = m.length
  · refine evPos (by omega) ?_
    exact laws_sameInts_l0 l m hl h l.length 0 (by omega)
  · refine evNeg (by omega) (evSome ?_)
    symm; rw [decide_eq_false_iff_not]; intro e; exact h (by rw [e])
theorem laws_sameInts_rfl (l : List Int) (hl : l.length ≤ 35184372088832) : Ev (fun k => laws_sameInts.f k l l) true := evEq (laws_sameInts_ev l l hl) (by simp)

theorem laws_sameArray_rfl (a b : List Int) (ha : a.length ≤ 1048576) (hb : b.length ≤ 1048576) : Ev (fun k => laws_sameArray.f k a b a b) true := by
  unfold laws_sameArray.f
  exact Ev.bind (laws_sameInts_rfl a (by omega)) (evPos rfl (Ev.bind (laws_sameInts_rfl b (by omega)) (Ev.now _)))

theorem laws_big_eq (l : List Int) : laws_big.f l = some (decide ((l.length : Int) > 1048576)) := rfl

theorem and255 (x : Int) : 0 ≤ Go.bits .and .i64 x 255 ∧ Go.bits .and .i64 x 255 ≤ 255 := by
  have h : Go.bits .and .i64 x 255 = IntKind.i64.wrap (((BitVec.ofInt 64 x).toNat &&& 255 : Nat) : Int) := by
    simp only [Go.bits, BitVec.toNat_and]; rfl
  have h2 : (BitVec.ofInt 64 x).toNat &&& 255 ≤ 255 := Nat.and_le_right
  rw [h, IntKind.wrap_i64]; omega
/-- A cursor's place lies in its bytes. -/
def Cu (c : List Int) (i : Int) : Prop := 0 ≤ i ∧ i ≤ c.length
theorem spec_l1Byte_dr (c : List Int) (i h : Int) (hc : Cu c i) (hl : c.length ≤ 1048576) : ∃ x i' h', spec_l1Byte.f c i h = some (x, i', h') ∧ (0 ≤ x ∧ x ≤ 255) ∧ Cu c i' := by
  obtain ⟨h0, h1⟩ := hc
  unfold spec_l1Byte.f
  by_cases h2 : i < (c.length : Int)
  · rw [if_pos h2, if_pos h0, w64 (x := i + 1) (by omega) (by omega)]
    exact ⟨_, _, _, rfl, and255 _, by omega, by omega⟩
  · rw [if_neg h2]
    exact ⟨_, _, _, rfl, and255 _, h0, h1⟩
theorem spec_l1Below_dr (c : List Int) (i h n : Int) (hc : Cu c i) (hl : c.length ≤ 1048576) : ∃ x i' h', spec_l1Below.f c i h n = some (x, i', h') ∧ (0 ≤ x ∧ (x < n ∨ n ≤ 0 ∧ x = 0)) ∧ Cu c i' := by
  unfold spec_l1Below.f
  by_cases h1 : n ≤ 0
  · rw [if_pos h1]; exact ⟨_, _, _, rfl, ⟨by omega, .inr ⟨h1, rfl⟩⟩, hc⟩
  · rw [if_neg h1]
    by_cases h2 : n ≤ 256
    · obtain ⟨x, i', h', e, hx, hc'⟩ := spec_l1Byte_dr c i h hc hl
      rw [if_pos h2, e, Option.bind_some, if_neg (by omega)]
      have h3 := Int.tmod_eq_emod_of_nonneg (b := n) hx.1
      have h4 := Int.emod_nonneg x (show n ≠ 0 by omega)
      have h5 := Int.emod_lt_of_pos x (show 0 < n by omega)
      exact ⟨_, _, _, rfl, ⟨by rw [h3]; exact h4, .inl (by rw [h3]; exact h5)⟩, hc'⟩
    · obtain ⟨x, i1, h1', e1, hx, hc1⟩ := spec_l1Byte_dr c i h hc hl
      obtain ⟨y, i2, h2', e2, hy, hc2⟩ := spec_l1Byte_dr c i1 h1' hc1 hl
      obtain ⟨z, i3, h3', e3, hz, hc3⟩ := spec_l1Byte_dr c i2 h2' hc2 hl
      obtain ⟨u, i4, h4', e4, hu, hc4⟩ := spec_l1Byte_dr c i3 h3' hc3 hl
      rw [if_neg h2, e1, Option.bind_some]; dsimp only
      rw [e2, Option.bind_some]; dsimp only
      rw [e3, Option.bind_some]; dsimp only
      rw [e4, Option.bind_some]; dsimp only
      rw [if_neg (by omega), w64 (x := x * 16777216) (by omega) (by omega), w64 (x := y * 65536) (by omega) (by omega), w64 (x := x * 16777216 + y * 65536) (by omega) (by omega), w64 (x := z * 256) (by omega) (by omega), w64 (x := x * 16777216 + y * 65536 + z * 256) (by omega) (by omega), w64 (x := x * 16777216 + y * 65536 + z * 256 + u) (by omega) (by omega)]
      generalize hq : x * 16777216 + y * 65536 + z * 256 + u = q
      have h3 := Int.tmod_eq_emod_of_nonneg (b := n) (show 0 ≤ q by omega)
      have h4 := Int.emod_nonneg q (show n ≠ 0 by omega)
      have h5 := Int.emod_lt_of_pos q (show 0 < n by omega)
      exact ⟨_, _, _, rfl, ⟨by rw [h3]; exact h4, .inl (by rw [h3]; exact h5)⟩, hc4⟩

theorem spec_l1New_l0 (c : List Int) (hl : c.length ≤ 1048576) (d : Nat) : ∀ (i : Nat) (h : Int), i + d = c.length → ∃ h', Ev (fun k => spec_l1New.l0 k c h (i : Int)) (c, 0, h') := by
  induction d with
  | zero =>
    intro i h hi
    refine ⟨h, Ev.step (f := fun _ => some (c, 0, h)) (fun k => ?_) (Ev.now _)⟩
    simp only [spec_l1New.l0]; rw [if_neg (by omega)]
  | succ d ih =>
    intro i h hi
    by_cases h4 : (i : Int) < 4000
    · obtain ⟨h', e⟩ := ih (i + 1) (Go.bits .and .i64 (wrap64 ((wrap64 ((wrap64 (h * 131)) + (wrap64 (rd c (i : Int))))) + 7)) 1073741823) (by omega)
      refine ⟨h', Ev.step (fun k => ?_) e⟩
      simp only [spec_l1New.l0]
      rw [if_pos (by omega), if_pos h4, if_pos (by omega), w64s i (by omega)]
    · refine ⟨h, Ev.step (f := fun _ => some (c, 0, h)) (fun k => ?_) (Ev.now _)⟩
      simp only [spec_l1New.l0]; rw [if_pos (by omega), if_neg h4]
theorem spec_l1New_dr (c : List Int) (hl : c.length ≤ 1048576) : ∃ h, Ev (fun k => spec_l1New.f k c) (c, 0, h) := by
  unfold spec_l1New.f
  exact spec_l1New_l0 c hl c.length 0 _ (by omega)
theorem cu0 (c : List Int) : Cu c 0 := ⟨Int.le_refl 0, by omega⟩

theorem spec_l1PickInt_dr (c : List Int) (i h : Int) (l : List Int) (hn : 0 < l.length) (hc : Cu c i) (hl : c.length ≤ 1048576) : ∃ x i' h', spec_l1PickInt.f c i h l = some (x, i', h') ∧ x ∈ l ∧ Cu c i' := by
  obtain ⟨x, i', h', e, hx, hc'⟩ := spec_l1Below_dr c i h (l.length : Int) hc hl
  have h1 : x < (l.length : Int) := by omega
  have h2 : x.toNat < l.length := by omega
  unfold spec_l1PickInt.f; rw [e, Option.bind_some]; dsimp only
  rw [if_pos hx.1, if_pos h1]
  refine ⟨_, _, _, rfl, ?_, hc'⟩
  simp only [rd, List.getD_eq_getElem?_getD, List.getElem?_eq_getElem h2, Option.getD_some]
  exact List.getElem_mem h2

theorem spec_l2DrawRight_dr (c : List Int) (i h : Int) (hc : Cu c i) (hl : c.length ≤ 1048576) : ∃ s i' h', Ev (fun k => spec_l2DrawRight.f k c i h) (s, i', h') ∧ (s.length ≤ 3 ∧ ∀ x ∈ s, 0 ≤ x ∧ x ≤ 5) ∧ Cu c i' := by
  unfold spec_l2DrawRight.f
  obtain ⟨x, i1, h1, e1, hx, hc1⟩ := spec_l1Below_dr c i h 5 hc hl
  by_cases x0 : x = 0
  · exact ⟨_, _, _, evBind0 e1 (evPos x0 (Ev.now _)), ⟨by simp, by simp⟩, hc1⟩
  · have hj : ∀ b, ∃ s i' h', Ev (fun k => spec_l2DrawRight.j0 k x b c i1 h1) (s, i', h') ∧ (s.length ≤ 3 ∧ ∀ x ∈ s, 0 ≤ x ∧ x ≤ 5) ∧ Cu c i' := by
      intro b
      cases b with
      | true =>
        obtain ⟨y, i2, h2, e2, hy, hc2⟩ := spec_l1Below_dr c i1 h1 6 hc1 hl
        refine ⟨_, _, _, Ev.step (fun k => by rw [spec_l2DrawRight.j0]) (evPos rfl (evBind0 e2 (Ev.now _))), ?_, hc2⟩
        dsimp only
        refine ⟨by simp, fun z hz => ?_⟩
        rw [List.mem_singleton] at hz; omega
      | false =>
        by_cases x3 : x = 3
        · obtain ⟨y, i2, h2, e2, hy, hc2⟩ := spec_l1Below_dr c i1 h1 4 hc1 hl
          obtain ⟨z, i3, h3, e3, hz, hc3⟩ := spec_l1Below_dr c i2 h2 3 hc2 hl
          refine ⟨[y, wrap64 (1 + z)], i3, h3, Ev.step (fun k => by rw [spec_l2DrawRight.j0]) (evNeg (by simp) (evPos x3 (evBind0 e2 ?_))), ?_, hc3⟩
          · exact evBind0 (a := (z, i3, h3)) e3 (Ev.now ([y, wrap64 (1 + z)], i3, h3))
          rw [w64 (x := 1 + z) (by omega) (by omega)]
          refine ⟨by simp, fun u hu => ?_⟩
          simp only [List.mem_cons, List.not_mem_nil, or_false] at hu; omega
        · obtain ⟨y, i2, h2, e2, hy, hc2⟩ := spec_l1Below_dr c i1 h1 3 hc1 hl
          obtain ⟨z, i3, h3, e3, hz, hc3⟩ := spec_l1Below_dr c i2 h2 2 hc2 hl
          obtain ⟨v, i4, h4, e4, hv, hc4⟩ := spec_l1Below_dr c i3 h3 4 hc3 hl
          refine ⟨[wrap64 (1 + y), wrap64 (1 + z), v], i4, h4, Ev.step (fun k => by rw [spec_l2DrawRight.j0]) (evNeg (by simp) (evNeg x3 (evBind0 e2 ?_))), ?_, hc4⟩
          · exact evBind0 (a := (z, i3, h3)) e3 (evBind0 (a := (v, i4, h4)) e4 (Ev.now ([wrap64 (1 + y), wrap64 (1 + z), v], i4, h4)))
          rw [w64 (x := 1 + y) (by omega) (by omega), w64 (x := 1 + z) (by omega) (by omega)]
          refine ⟨by simp, fun u hu => ?_⟩
          simp only [List.mem_cons, List.not_mem_nil, or_false] at hu; omega
    by_cases x1 : x = 1
    · obtain ⟨s, i', h', e, r⟩ := hj (x == 1)
      exact ⟨s, i', h', evBind0 e1 (evNeg x0 (evPos x1 e)), r⟩
    · obtain ⟨s, i', h', e, r⟩ := hj (x == 2)
      exact ⟨s, i', h', evBind0 e1 (evNeg x0 (evNeg x1 e)), r⟩
theorem spec_l2Draw_dr (c : List Int) (i h : Int) (hc : Cu c i) (hl : c.length ≤ 1048576) : ∃ s i' h', Ev (fun k => spec_l2Draw.f k c i h) (s, i', h') ∧ (s.length ≤ 4 ∧ ∀ x ∈ s, -1 ≤ x ∧ x ≤ 301) ∧ Cu c i' := by
  unfold spec_l2Draw.f
  obtain ⟨s, i1, h1, e1, ⟨hs, hx⟩, hc1⟩ := spec_l2DrawRight_dr c i h hc hl
  obtain ⟨x, i2, h2, e2, _, hc2⟩ := spec_l1Below_dr c i1 h1 20 hc1 hl
  by_cases x0 : x = 0
  · obtain ⟨y, i3, h3, e3, hy, hc3⟩ := spec_l1PickInt_dr c i2 h2 [-1, 0, 300, 301] (by decide) hc2 hl
    refine ⟨_, _, _, Ev.bind e1 (evBind0 e2 (evPos x0 (evBind0 e3 (evPos (by dsimp only; omega) (Ev.now _))))), ?_, hc3⟩
    dsimp only
    refine ⟨by rw [List.length_append]; simp; omega, fun u hu => ?_⟩
    rw [List.mem_append, List.mem_singleton] at hu
    simp only [List.mem_cons, List.not_mem_nil, or_false] at hy
    rcases hu with hu | hu
    · have := hx u hu; omega
    · omega
  by_cases x1 : x = 1
  · exact ⟨_, _, _, Ev.bind e1 (evBind0 e2 (evNeg x0 (evPos x1 (Ev.now _)))), ⟨by simp, by simp⟩, hc2⟩
  by_cases x2 : x = 2
  · obtain ⟨y, i3, h3, e3, hy, hc3⟩ := spec_l1PickInt_dr c i2 h2 [17, 20, 15, 300] (by decide) hc2 hl
    obtain ⟨z, i4, h4, e4, hz, hc4⟩ := spec_l1PickInt_dr c i3 h3 [15, 20, 16, 0] (by decide) hc3 hl
    refine ⟨_, _, _, Ev.bind e1 (evBind0 e2 (evNeg x0 (evNeg x1 (evPos x2 (evBind0 e3 (evBind0 e4 (Ev.now _))))))), ?_, hc4⟩
    dsimp only
    refine ⟨by simp, fun u hu => ?_⟩
    simp only [List.mem_cons, List.not_mem_nil, or_false] at hu hy hz; omega
  · exact ⟨_, _, _, Ev.bind e1 (evBind0 e2 (evNeg x0 (evNeg x1 (evNeg x2 (Ev.now _))))), ⟨by dsimp only; omega, fun u hu => by have := hx u hu; omega⟩, hc2⟩

theorem spec_l1Once_dr (c : List Int) (i h n : Int) (hc : Cu c i) (hl : c.length ≤ 1048576) : ∃ x i' h', spec_l1Once.f c i h n = some (x, i', h') ∧ Cu c i' := by
  obtain ⟨x, i', h', e, _, hc'⟩ := spec_l1Below_dr c i h n hc hl
  unfold spec_l1Once.f; rw [e, Option.bind_some]
  exact ⟨_, _, _, rfl, hc'⟩

theorem spec_l1DrawNum_dr (c : List Int) (i h : Int) (hc : Cu c i) (hl : c.length ≤ 1048576) : ∃ x i' h', spec_l1DrawNum.f c i h = some (x, i', h') ∧ (-1000000000000 ≤ x ∧ x ≤ 1000000000000) ∧ Cu c i' := by
  obtain ⟨b, i1, h1, e1, hc1⟩ := spec_l1Once_dr c i h 12 hc hl
  unfold spec_l1DrawNum.f; rw [e1, Option.bind_some]; dsimp only
  cases b with
  | true =>
    obtain ⟨x, i2, h2, e2, hx, hc2⟩ := spec_l1PickInt_dr c i1 h1 [1000000000000, -1000000000000, 999999999999, 1000000, -1000000, 1000001, 999999999999] (by decide) hc1 hl
    rw [if_pos rfl, e2, Option.bind_some]
    refine ⟨_, _, _, rfl, ?_, hc2⟩
    simp only [List.mem_cons, List.not_mem_nil, or_false] at hx
    dsimp only
    omega
  | false =>
    obtain ⟨x, i2, h2, e2, hx, hc2⟩ := spec_l1Below_dr c i1 h1 20 hc1 hl
    rw [if_neg (by simp), e2, Option.bind_some]
    refine ⟨_, _, _, rfl, ?_, hc2⟩
    dsimp only
    rw [w64 (by omega) (by omega)]; omega

theorem spec_l1DrawRaw_dr (c : List Int) (i h : Int) (hc : Cu c i) (hl : c.length ≤ 1048576) : ∃ x i' h', spec_l1DrawRaw.f c i h = some (x, i', h') ∧ (-9223372036854775808 ≤ x ∧ x ≤ 9223372036854775807) ∧ Cu c i' := by
  obtain ⟨b, i1, h1, e1, hc1⟩ := spec_l1Once_dr c i h 15 hc hl
  unfold spec_l1DrawRaw.f; rw [e1, Option.bind_some]; dsimp only
  cases b with
  | true =>
    obtain ⟨x, i2, h2, e2, hx, hc2⟩ := spec_l1PickInt_dr c i1 h1 [1000000000001, -1000000000001, 9223372036854775807, -9223372036854775808] (by decide) hc1 hl
    rw [if_pos rfl, e2, Option.bind_some]
    refine ⟨_, _, _, rfl, ?_, hc2⟩
    simp only [List.mem_cons, List.not_mem_nil, or_false] at hx
    dsimp only
    omega
  | false =>
    obtain ⟨x, i2, h2, e2, hx, hc2⟩ := spec_l1DrawNum_dr c i1 h1 hc1 hl
    rw [if_neg (by simp), e2, Option.bind_some]
    refine ⟨_, _, _, rfl, ?_, hc2⟩
    dsimp only
    omega

theorem spec_l3Fill_l0 (c s : List Int) (hl : c.length ≤ 1048576) (n : Nat) : ∀ (j : Nat) (d : List Int) (i h : Int), szOf s - j ≤ n → d.length = j → j ≤ 300 → (∀ x ∈ d, -1000000000000 ≤ x ∧ x ≤ 1000000000000) → Cu c i → ∃ e i' h', Ev (fun k => spec_l3Fill.l0 k s (j : Int) c i h s d) (s, e, i', h') ∧ (e.length ≤ 300 ∧ ∀ x ∈ e, -1000000000000 ≤ x ∧ x ≤ 1000000000000) ∧ Cu c i' := by
  have hz := szOf_ge s
  induction n with
  | zero =>
    intro j d i h hn hd hj hx hc
    refine ⟨d, i, h, Ev.step (fun k => by rw [spec_l3Fill.l0]) ?_, ⟨by omega, hx⟩, hc⟩
    refine Ev.bind (spec_SizeOf_ev s) ?_
    exact evNeg (by omega) (Ev.now _)
  | succ n ih =>
    intro j d i h hn hd hj hx hc
    by_cases hlt : (j : Int) < szOf s
    · obtain ⟨y, i1, h1, e1, hy, hc1⟩ := spec_l1DrawNum_dr c i h hc hl
      obtain ⟨e, i2, h2, ee, he, hc2⟩ := ih (j + 1) (d ++ [y]) i1 h1 (by omega) (by simp [hd]) (by omega) (fun x hx' => by
        rcases List.mem_append.1 hx' with h | h
        · exact hx x h
        · rw [List.mem_singleton] at h; omega) hc1
      refine ⟨e, i2, h2, Ev.step (fun k => by rw [spec_l3Fill.l0]) ?_, he, hc2⟩
      refine Ev.bind (spec_SizeOf_ev s) (evPos hlt (evBind0 e1 ?_))
      dsimp only
      rw [w64s j (by omega)]
      exact evPos (by omega) ee
    · refine ⟨d, i, h, Ev.step (fun k => by rw [spec_l3Fill.l0]) ?_, ⟨by omega, hx⟩, hc⟩
      exact Ev.bind (spec_SizeOf_ev s) (evNeg hlt (Ev.now _))
theorem spec_l3Fill_dr (c : List Int) (i h : Int) (s : List Int) (hs : s.length ≤ 100) (hc : Cu c i) (hl : c.length ≤ 1048576) : ∃ e i' h', Ev (fun k => spec_l3Fill.f k c i h s) (s, e, i', h') ∧ (e.length ≤ 300 ∧ ∀ x ∈ e, -1000000000000 ≤ x ∧ x ≤ 1000000000000) ∧ Cu c i' := by
  unfold spec_l3Fill.f
  have hz := szOf_ge s
  obtain ⟨e, i1, h1, ee, he, hc1⟩ := spec_l3Fill_l0 c s hl 300 0 [] i h (by omega) rfl (by omega) (by simp) hc
  exact ⟨e, i1, h1, evLet (evPos (by rw [List.length_nil]; omega) (by simpa using ee)), he, hc1⟩
theorem spec_l3DrawRight_dr (c : List Int) (i h : Int) (hc : Cu c i) (hl : c.length ≤ 1048576) : ∃ s d i' h', Ev (fun k => spec_l3DrawRight.f k c i h) (s, d, i', h') ∧ (s.length ≤ 3 ∧ d.length ≤ 300 ∧ ∀ x ∈ d, -1000000000000 ≤ x ∧ x ≤ 1000000000000) ∧ Cu c i' := by
  unfold spec_l3DrawRight.f
  obtain ⟨s, i1, h1, e1, ⟨hs, _⟩, hc1⟩ := spec_l2DrawRight_dr c i h hc hl
  obtain ⟨d, i2, h2, e2, hd, hc2⟩ := spec_l3Fill_dr c i1 h1 s (by omega) hc1 hl
  exact ⟨s, d, i2, h2, Ev.bind e1 (Ev.bind e2 (Ev.now _)), ⟨hs, hd⟩, hc2⟩
theorem spec_l3Draw_dr (c : List Int) (i h : Int) (hc : Cu c i) (hl : c.length ≤ 1048576) : ∃ s d i' h', Ev (fun k => spec_l3Draw.f k c i h) (s, d, i', h') ∧ (s.length ≤ 4 ∧ d.length ≤ 301 ∧ ∀ x ∈ d, -9223372036854775808 ≤ x ∧ x ≤ 9223372036854775807) ∧ Cu c i' := by
  unfold spec_l3Draw.f
  obtain ⟨s, d, i1, h1, e1, ⟨hs, hd, hx⟩, hc1⟩ := spec_l3DrawRight_dr c i h hc hl
  obtain ⟨x, i2, h2, e2, hx2, hc2⟩ := spec_l1Below_dr c i1 h1 20 hc1 hl
  have hw : ∀ x ∈ d, -9223372036854775808 ≤ x ∧ x ≤ 9223372036854775807 := fun x h => by have := hx x h; omega
  by_cases x0 : x = 0
  · refine ⟨s, d ++ [1], i2, h2, Ev.bind e1 (evBind0 e2 ?_), ⟨by omega, by simp; omega, fun y hy => ?_⟩, hc2⟩
    · dsimp only
      exact evPos x0 (evPos (by omega) (Ev.now _))
    · rcases List.mem_append.1 hy with h | h
      · exact hw y h
      · rw [List.mem_singleton] at h; omega
  by_cases x1 : x = 1
  · obtain ⟨s2, i3, h3, e3, ⟨hs2, _⟩, hc3⟩ := spec_l2Draw_dr c i2 h2 hc2 hl
    refine ⟨s2, d, i3, h3, Ev.bind e1 (evBind0 e2 ?_), ⟨hs2, by omega, hw⟩, hc3⟩
    dsimp only
    exact evNeg x0 (evPos x1 (Ev.bind e3 (Ev.now _)))
  by_cases x2 : x = 2
  · by_cases hd0 : (d.length : Int) > 0
    · obtain ⟨p, i3, h3, e3, hp, hc3⟩ := spec_l1Below_dr c i2 h2 (d.length : Int) hc2 hl
      obtain ⟨y, i4, h4, e4, hy, hc4⟩ := spec_l1DrawRaw_dr c i3 h3 hc3 hl
      refine ⟨s, d.set p.toNat y, i4, h4, Ev.bind e1 (evBind0 e2 ?_), ⟨by omega, by rw [List.length_set]; omega, fun z hz => ?_⟩, hc4⟩
      · dsimp only
        refine evNeg x0 (evNeg x1 (evPos x2 (evPos hd0 (evBind0 e3 ?_))))
        dsimp only
        refine evBind0 e4 ?_
        dsimp only
        exact evPos hp.1 (evPos (by omega) (Ev.now _))
      · rcases List.mem_or_eq_of_mem_set hz with h | h
        · exact hw z h
        · omega
    · refine ⟨s, d, i2, h2, Ev.bind e1 (evBind0 e2 ?_), ⟨by omega, by omega, hw⟩, hc2⟩
      dsimp only
      exact evNeg x0 (evNeg x1 (evPos x2 (evNeg hd0 (Ev.now _))))
  by_cases x3 : x = 3
  · obtain ⟨p, i3, h3, e3, hp, hc3⟩ := spec_l1Below_dr c i2 h2 2 hc2 hl
    have hq : wrap64 (300 + p) = 300 + p := w64 (by omega) (by omega)
    refine ⟨[300], List.replicate (300 + p).toNat 0, i3, h3, Ev.bind e1 (evBind0 e2 ?_), ⟨by simp, by rw [List.length_replicate]; omega, fun z hz => ?_⟩, hc3⟩
    · dsimp only
      refine evNeg x0 (evNeg x1 (evNeg x2 (evPos x3 (evBind0 e3 ?_))))
      dsimp only
      rw [hq]
      exact evPos (by omega) (evPos (by omega) (Ev.now _))
    · have := List.eq_of_mem_replicate hz; omega
  · refine ⟨s, d, i2, h2, Ev.bind e1 (evBind0 e2 ?_), ⟨by omega, by omega, hw⟩, hc2⟩
    dsimp only
    exact evNeg x0 (evNeg x1 (evNeg x2 (evNeg x3 (Ev.now _))))

def vec (l : List Int) : List Int × List Int := ([(l.length : Int)], l)

theorem spec_l3Vector_eq (l : List Int) (hl : l.length ≤ 1048576) : spec_l3Vector.f l = some (vec l) := by
  unfold spec_l3Vector.f
  rw [Option.bind_some, if_pos (by rw [List.length_nil]; omega)]; rfl

theorem spec_l3Scalar_eq (x : Int) : spec_l3Scalar.f x = some ([], [x]) := rfl

theorem spec_l5DrawN_dr (c : List Int) (i h n : Int) (hc : Cu c i) (hl : c.length ≤ 1048576) : ∃ a0 a1 i' h', Ev (fun k => spec_l5DrawN.f k c i h n) (a0, a1, i', h') ∧ (a0.length ≤ 4 ∧ a1.length ≤ 301) ∧ Cu c i' := by
  unfold spec_l5DrawN.f
  obtain ⟨x, i1, h1, e1, _, hc1⟩ := spec_l1Below_dr c i h 9 hc hl
  by_cases x0 : x = 0
  · obtain ⟨a0, a1, i3, h3, e3, ⟨p1, p2, _⟩, hc3⟩ := spec_l3Draw_dr c i1 h1 hc1 hl
    exact ⟨a0, a1, i3, h3, evBind0 e1 (evPos x0 (Ev.bind e3 (Ev.now _))), ⟨p1, p2⟩, hc3⟩
  by_cases x1 : x = 1
  · exact ⟨(vec [n]).1, (vec [n]).2, i1, h1, evBind0 e1 (evNeg x0 (evPos x1 (evBind0 (spec_l3Vector_eq [n] (by simp)) (Ev.now _)))), ⟨by simp [vec], by simp [vec]⟩, hc1⟩
  · exact ⟨[], [n], i1, h1, evBind0 e1 (evNeg x0 (evNeg x1 (evBind0 (spec_l3Scalar_eq n) (Ev.now _)))), ⟨by simp, by simp⟩, hc1⟩
theorem spec_l5DrawBy_dr (c : List Int) (hl : c.length ≤ 1048576) : ∃ a0 a1 b0 b1, Ev (fun k => spec_l5DrawBy.f k c) (a0, a1, b0, b1) ∧ (a0.length ≤ 4 ∧ a1.length ≤ 301) ∧ (b0.length ≤ 4 ∧ b1.length ≤ 301) := by
  unfold spec_l5DrawBy.f
  obtain ⟨h0, e0⟩ := spec_l1New_dr c hl
  obtain ⟨x, i1, h1, e1, _, hc1⟩ := spec_l1Below_dr c 0 h0 12 (cu0 c) hl
  obtain ⟨o, i2, h2, e2, hc2⟩ := spec_l1Once_dr c i1 h1 15 hc1 hl
  by_cases o1 : o = true
  · obtain ⟨y, i3, h3, e3, _, hc3⟩ := spec_l1PickInt_dr c i2 h2 [1000000000000, -1000000000000, 300, 301] (by decide) hc2 hl
    obtain ⟨a0, a1, i4, h4, e4, p, hc4⟩ := spec_l5DrawN_dr c i3 h3 y hc3 hl
    obtain ⟨b0, b1, i5, h5, e5, ⟨q1, q2, _⟩, _⟩ := spec_l3Draw_dr c i4 h4 hc4 hl
    exact ⟨a0, a1, b0, b1, Ev.bind e0 (evBind0 e1 (evBind0 e2 (evPos o1 (evBind0 e3 (Ev.bind e4 (Ev.bind e5 (Ev.now _))))))), p, ⟨q1, q2⟩⟩
  · obtain ⟨a0, a1, i4, h4, e4, p, hc4⟩ := spec_l5DrawN_dr c i2 h2 (wrap64 (x - 5)) hc2 hl
    obtain ⟨b0, b1, i5, h5, e5, ⟨q1, q2, _⟩, _⟩ := spec_l3Draw_dr c i4 h4 hc4 hl
    exact ⟨a0, a1, b0, b1, Ev.bind e0 (evBind0 e1 (evBind0 e2 (evNeg o1 (Ev.bind e4 (Ev.bind e5 (Ev.now _)))))), p, ⟨q1, q2⟩⟩

theorem spec_DrawRotate_dr (c : List Int) (hl : c.length ≤ 1048576) : ∃ a0 a1 b0 b1, Ev (fun k => spec_DrawRotate.f k c) (a0, a1, b0, b1) ∧ (a0.length ≤ 4 ∧ a1.length ≤ 301) ∧ (b0.length ≤ 4 ∧ b1.length ≤ 301) := by
  unfold spec_DrawRotate.f
  obtain ⟨a0, a1, b0, b1, e, p, q⟩ := spec_l5DrawBy_dr c hl
  exact ⟨a0, a1, b0, b1, Ev.bind e (Ev.now _), p, q⟩
theorem flat_cons (r : S26) (rs : List S26) : flat (r :: rs) = r.f1 ++ flat rs := by unfold flat; simp
theorem flat_drop (M : Nat) : ∀ (i : Nat) (rs : List S26), (∀ r ∈ rs, r.f1.length = M) → (flat rs).drop (i * M) = flat (rs.drop i)
  | 0, rs, _ => by simp
  | i + 1, [], _ => by simp [flat]
  | i + 1, r :: rs, h => by
    have h1 := h r (List.mem_cons_self ..)
    have ih := flat_drop M i rs (fun x hx => h x (List.mem_cons_of_mem _ hx))
    rw [flat_cons, List.drop_succ_cons, ← ih, Nat.succ_mul, List.drop_append, h1, show i * M + M - M = i * M by omega, List.drop_of_length_le (by omega), List.nil_append]
theorem flat_row (M : Nat) (rs : List S26) (hM : ∀ r ∈ rs, r.f1.length = M) (i : Nat) (h : i < rs.length) : ((flat rs).take ((i + 1) * M)).drop (i * M) = rs[i].f1 := by
  have h1 := hM rs[i] (List.getElem_mem h)
  rw [List.drop_take, flat_drop M i rs hM, List.drop_eq_getElem_cons h, flat_cons, Nat.succ_mul, show i * M + M - i * M = M by omega, ← h1, List.take_left]
theorem rot_row {m : Int} {t d : List Int} {n : Int} (h : arrayOk (m :: t) d = true) (i : Nat) (hi : i < m.toNat) : row t (flat (rotN m.toNat t d (prod t).toNat n)) (prod t).toNat i = row t d (prod t).toNat (rotI m.toNat n i) := by
  obtain ⟨f1, f2, f3, f4, f5, f6⟩ := rows_facts h
  have e : (rotN m.toNat t d (prod t).toNat n)[i]'(by rw [rotN_length]; exact hi) = row t d (prod t).toNat (rotI m.toNat n i) := by unfold rotN; simp
  have := flat_row (prod t).toNat (rotN m.toNat t d (prod t).toNat n) (rotN_row f2) i (by rw [rotN_length]; exact hi)
  rw [e] at this
  show (⟨t, _⟩ : S26) = ⟨t, _⟩
  rw [this]; rfl
theorem FnRotated_l0 (m : Int) (t d a b : List Int) (n : Int) (h : arrayOk (m :: t) d = true) (hm : ¬ m = 0) (q : Nat) : ∀ i : Nat, i + q = m.toNat → Ev (fun k => laws_FnRotated.l0 k (rowsN m.toNat t d (prod t).toNat) (rowsN m.toNat t (flat (rotN m.toNat t d (prod t).toNat n)) (prod t).toNat) (m.toNat : Int) (n % (m.toNat : Int)) (i : Int) (m :: t) d (m :: t) (flat (rotN m.toNat t d (prod t).toNat n))) true := by
  obtain ⟨f1, f2, f3, f4, f5, f6⟩ := rows_facts h
  have hN : 0 < m.toNat := by omega
  have hr := rowsN_length m.toNat t d (prod t).toNat
  have hr2 := rowsN_length m.toNat t (flat (rotN m.toNat t d (prod t).toNat n)) (prod t).toNat
  induction q with
  | zero =>
    intro i hi
    refine Ev.step (fun k => by rw [laws_FnRotated.l0]) (evNeg (by omega) ?_)
    exact Ev.bind (laws_sameInts_rfl (m :: t) (by simp only [List.length_cons]; omega)) (Ev.now _)
  | succ q ih =>
    intro i hi
    have hlt := rotI_lt m.toNat n i hN
    have ih' := ih (i + 1) (by omega)
    have h1 : (row t d (prod t).toNat (rotI m.toNat n i)).f1.length = (prod t).toNat := row_len f2 hlt
    have h2 : (prod t).toNat ≤ m.toNat * (prod t).toNat := Nat.le_mul_of_pos_left _ hN
    refine Ev.step (fun k => by rw [laws_FnRotated.l0]) ?_
    rw [rot_spec n m.toNat i hN f3 (by omega), w64s i (by omega), rowsN_rd m.toNat t d (prod t).toNat _ hlt, rowsN_rd m.toNat t _ (prod t).toNat i (by omega), rot_row h i (by omega)]
    refine evPos (by omega) (evPos (by omega) (evPos (by omega) (evNeg (by omega) (evPos (by omega) (evPos (by omega) ?_)))))
    exact Ev.bind (laws_sameArray_rfl _ _ (by show t.length ≤ _; omega) (by omega)) (evPos rfl ih')
theorem FnRotated : laws_FnRotated.Pure := by
  intro l _ _ _
  suffices hE_ : Ev (fun k => laws_FnRotated.f k l) true from Exists.elim hE_ (fun K_ h_ => ⟨K_, h_ K_ (Nat.le_refl _)⟩)
  unfold laws_FnRotated.f
  refine evBind0 (laws_big_eq l) ?_
  by_cases hb : (l.length : Int) > 1048576
  · exact evPos (decide_eq_true hb) (Ev.now _)
  refine evNeg (by simpa using hb) ?_
  have hl : l.length ≤ 1048576 := by omega
  obtain ⟨a, b, c, d, e, ⟨ha, hb'⟩, ⟨hc, hd⟩⟩ := spec_DrawRotate_dr l hl
  refine Ev.bind e (Ev.bind (impl_Rotate_ev a b c d (by omega) (by omega) (by omega)) (Ev.bind (spec_Rotate_ev a b c d (by omega) (by omega) (by omega)) (evPos rfl ?_)))
  dsimp only
  by_cases h : arrayOk a b = true ∧ arrayOk c d = true
  · by_cases h2 : b.length = 1
    · cases c with
      | nil =>
        have eR : rotate a b [] d = ([], d, 0) := by unfold rotate; rw [if_pos h, if_pos h2]
        rw [eR]
        refine evPos rfl (evPos rfl ?_)
        refine Ev.step (fun k => by rw [laws_FnRotated.j0]) (evPos rfl ?_)
        exact Ev.bind (laws_sameArray_rfl [] d (by simp) (by omega)) (Ev.now _)
      | cons m t =>
        obtain ⟨f1, f2, f3, f4, f5, f6⟩ := rows_facts h.2
        have e0 : rd (m :: t) 0 = m := rfl
        by_cases h3 : m = 0
        · have eR : rotate a b (m :: t) d = (m :: t, d, 0) := by unfold rotate; rw [if_pos h, if_pos h2]; exact if_pos h3
          rw [eR]
          refine evPos rfl (evNeg (by simp only [List.length_cons]; omega) (evPos (by simp only [List.length_cons]; omega) ?_))
          rw [e0, show (m == 0) = true by simp [h3]]
          refine Ev.step (fun k => by rw [laws_FnRotated.j0]) (evPos rfl ?_)
          exact Ev.bind (laws_sameArray_rfl (m :: t) d (by omega) (by omega)) (Ev.now _)
        · have hf := rot_flat_ok (n := rd b 0) h.2
          have g1 := rowsN_length m.toNat t d (prod t).toNat
          have eR : rotate a b (m :: t) d = (m :: t, flat (rotN m.toNat t d (prod t).toNat (rd b 0)), 0) := by unfold rotate; rw [if_pos h, if_pos h2]; exact if_neg h3
          rw [eR]
          refine evPos rfl (evNeg (by simp only [List.length_cons]; omega) (evPos (by simp only [List.length_cons]; omega) ?_))
          rw [e0, show (m == 0) = false by simp [h3]]
          refine Ev.step (fun k => by rw [laws_FnRotated.j0]) (evNeg (by simp) ?_)
          refine Ev.bind (impl_Rows_ev (m :: t) d (by omega)) (Ev.bind (impl_Rows_ev (m :: t) _ (by dsimp only; omega)) (evPos (by omega) ?_))
          have r1 : rows (m :: t) d = rowsN m.toNat t d (prod t).toNat := by rw [rows_cons, if_pos h.2]
          have r2 : rows (m :: t) (flat (rotN m.toNat t d (prod t).toNat (rd b 0))) = rowsN m.toNat t (flat (rotN m.toNat t d (prod t).toNat (rd b 0))) (prod t).toNat := by rw [rows_cons, if_pos hf.1]
          dsimp only
          rw [r1, r2, g1]
          refine evNeg (by omega) ?_
          rw [tm (rd b 0) m.toNat (by omega) f3]
          exact FnRotated_l0 m t d a b (rd b 0) h.2 h3 m.toNat 0 (by omega)
    · have eR : rotate a b c d = ([], [], 3) := by unfold rotate; rw [if_pos h, if_neg h2]
      rw [eR]
      exact evNeg (by decide) (evSome rfl)
  · have eR : rotate a b c d = ([], [], 1) := by unfold rotate; rw [if_neg h]
    rw [eR]
    exact evNeg (by decide) (evSome rfl)

end Go.Proofs.Ytjkbndfaemjjiaa.Pure
