/- The law FnExactCopy answers true for any two arrays: the program's Copy is the reference's, and what it hands back is its own memory. Conditions: those of the row's own reading alone. -/
import Derived.Test.YtcnbajdnlkcjjaaPFnExactCopyx
namespace Go.Proofs.Ytcnbajdnlkcjjaa.Pure
open Go.RowKit Go.Proofs.Ytcnbajdnlkcjjaa.PFnExactCopy Go.Proofs.YtcnbajdnlkcjjaaW.PrintWords Go.Proofs.YtcnbajdnlkcjjaaW.PrintLast Go.Proofs.YtcnbajdnlkcjjaaW.PrintMore
set_option linter.unusedVariables false
set_option linter.unusedSimpArgs false

section
variable {α β : Type}
theorem evPos {c : Prop} [Decidable c] {g h : Nat → Option α} {r : α} (hc : c) (e : Ev g r) : Ev (fun k => if c then g k else h k) r := by
  simpa only [if_pos hc] using e
theorem evNeg {c : Prop} [Decidable c] {g h : Nat → Option α} {r : α} (hc : ¬ c) (e : Ev h r) : Ev (fun k => if c then g k else h k) r := by
  simpa only [if_neg hc] using e
theorem evBind0 {o : Option α} {f : Nat → α → Option β} {a : α} {r : β} (h : o = some a) (k : Ev (fun n => f n a) r) : Ev (fun n => o.bind (f n)) r := by
  subst h; simpa only [Option.bind_some] using k
theorem evLet {a : α} {f : Nat → α → Option β} {r : β} (k : Ev (fun n => f n a) r) : Ev (fun n => (some a).bind (f n)) r := by
  simpa only [Option.bind_some] using k
theorem evEq {g : Nat → Option α} {r r' : α} (h : Ev g r) (e : r = r') : Ev g r' := e ▸ h
theorem evSome {a r : α} (e : a = r) : Ev (fun _ => some a) r := e ▸ Ev.now a
end
theorem w64 {x : Int} (h : -9223372036854775808 ≤ x) (h' : x ≤ 9223372036854775807) : wrap64 x = x := by unfold wrap64; omega
theorem w64s (i : Nat) (h : i < 4611686018427387904) : wrap64 ((i : Int) + 1) = ((i + 1 : Nat) : Int) := by rw [w64] <;> omega
theorem rdn (l : List Int) (i : Nat) (h : i < l.length) : rd l (i : Int) = l[i] := by
  simp only [rd, Int.toNat_natCast, List.getD_eq_getElem?_getD, List.getElem?_eq_getElem h, Option.getD_some]
/-- The product of a list. -/
def prod : List Int → Int
  | [] => 1
  | x :: l => x * prod l
/-- May these stand in a shape? -/
def inR (l : List Int) : Bool := l.all fun n => decide (0 ≤ n ∧ n ≤ 300)
/-- How many numbers an array of a shape has; -1 where the shape isn't right. -/
def szOf (l : List Int) : Int := if 3 < l.length then -1 else if inR l = true then (if prod l > 300 then -1 else prod l) else -1
theorem mul300 {a b : Int} {m n : Int} (h0 : 0 ≤ a) (h1 : a ≤ m) (h2 : 0 ≤ b) (h3 : b ≤ n) : 0 ≤ a * b ∧ a * b ≤ m * n :=
  ⟨Int.mul_nonneg h0 h2, Int.mul_le_mul h1 h3 h2 (Int.le_trans h0 h1)⟩
theorem inR_cons {a : Int} {l : List Int} : inR (a :: l) = true ↔ (0 ≤ a ∧ a ≤ 300) ∧ inR l = true := by
  simp [inR]
/-- A part of a shape's product stays small. -/
def pw : Nat → Int
  | 0 => 1
  | n + 1 => 300 * pw n
theorem prod_le : ∀ (l : List Int), inR l = true → 0 ≤ prod l ∧ prod l ≤ pw l.length
  | [], _ => by simp [prod, pw]
  | a :: l, h => by
    obtain ⟨⟨h0, h1⟩, h2⟩ := inR_cons.1 h
    obtain ⟨h3, h4⟩ := prod_le l h2
    exact mul300 h0 h1 h3 h4
theorem prod_append : ∀ (a b : List Int), prod (a ++ b) = prod a * prod b
  | [], b => by simp [prod]
  | x :: a, b => by simp [prod, prod_append a b, Int.mul_assoc]
theorem pw_le {n : Nat} (h : n ≤ 3) : pw n ≤ 27000000 := by
  match n, h with
  | 0, _ => decide
  | 1, _ => decide
  | 2, _ => decide
  | 3, _ => decide
theorem inR_take {l : List Int} (i : Nat) (h : inR l = true) : inR (l.take i) = true := by
  simp only [inR, List.all_eq_true] at h ⊢
  exact fun x hx => h x (List.mem_of_mem_take hx)
theorem prod_take_succ (l : List Int) (i : Nat) (h : i < l.length) : prod (l.take (i + 1)) = prod (l.take i) * l[i] := by
  rw [List.take_succ_eq_append_getElem h, prod_append]; simp [prod]
/-- The product so far is small. -/
theorem prod_take_le (l : List Int) (i : Nat) (hl : ¬ 3 < l.length) (h : inR (l.take i) = true) : 0 ≤ prod (l.take i) ∧ prod (l.take i) ≤ 27000000 := by
  obtain ⟨h0, h1⟩ := prod_le _ h
  have h2 : (l.take i).length ≤ 3 := by rw [List.length_take]; omega
  exact ⟨h0, Int.le_trans h1 (pw_le h2)⟩
theorem inR_take_succ (l : List Int) (i : Nat) (h : i < l.length) : inR (l.take (i + 1)) = true ↔ inR (l.take i) = true ∧ (0 ≤ l[i] ∧ l[i] ≤ 300) := by
  unfold inR
  rw [List.take_succ_eq_append_getElem h, List.all_append, Bool.and_eq_true]; simp
theorem inR_not {l : List Int} (i : Nat) (h : i < l.length) (hx : ¬ (0 ≤ l[i] ∧ l[i] ≤ 300)) : inR l = false := by
  rw [← Bool.not_eq_true]
  intro hh
  simp only [inR, List.all_eq_true] at hh
  exact hx (of_decide_eq_true (hh _ (List.getElem_mem h)))
theorem szOf_ge (l : List Int) : -1 ≤ szOf l ∧ szOf l ≤ 300 := by
  unfold szOf
  by_cases h1 : 3 < l.length
  · rw [if_pos h1]; omega
  · rw [if_neg h1]
    by_cases h2 : inR l = true
    · rw [if_pos h2]
      have := (prod_le l h2).1
      by_cases h3 : prod l > 300
      · rw [if_pos h3]; omega
      · rw [if_neg h3]; omega
    · rw [if_neg h2]; omega

/-- A right number. -/
def okN (x : Int) : Bool := decide (-1000000000000 ≤ x ∧ x ≤ 1000000000000)
theorem okN_t {x : Int} (h : okN x = true) : -1000000000000 ≤ x ∧ x ≤ 1000000000000 := of_decide_eq_true h
theorem szOf_nonneg {l : List Int} (h : szOf l ≥ 0) : ¬ 3 < l.length ∧ inR l = true ∧ prod l ≤ 300 ∧ szOf l = prod l := by
  unfold szOf at h ⊢
  by_cases h1 : 3 < l.length
  · rw [if_pos h1] at h; omega
  · rw [if_neg h1] at h ⊢
    by_cases h2 : inR l = true
    · rw [if_pos h2] at h ⊢
      by_cases h3 : prod l > 300
      · rw [if_pos h3] at h; omega
      · rw [if_neg h3] at h ⊢; exact ⟨h1, h2, by omega, rfl⟩
    · rw [if_neg h2] at h; omega
def arrayOk (s d : List Int) : Bool := decide ((d.length : Int) = szOf s) && d.all okN
theorem arrayOk_t {s d : List Int} (h : arrayOk s d = true) : (d.length : Int) = szOf s ∧ (∀ x ∈ d, okN x = true) ∧ d.length ≤ 300 ∧ s.length ≤ 3 ∧ szOf s ≥ 0 := by
  unfold arrayOk at h
  rw [Bool.and_eq_true, decide_eq_true_iff, List.all_eq_true] at h
  have h1 := szOf_ge s
  have h2 : szOf s ≥ 0 := by omega
  exact ⟨h.1, h.2, by omega, by have := (szOf_nonneg h2).1; omega, h2⟩

def row (t d : List Int) (M i : Nat) : S26 := ⟨t, (d.take ((i + 1) * M)).drop (i * M)⟩
def rowsN (N : Nat) (t d : List Int) (M : Nat) : List S26 := (List.range N).map (row t d M)
theorem rowsN_length (N : Nat) (t d : List Int) (M : Nat) : (rowsN N t d M).length = N := by unfold rowsN; simp
theorem rowsN_rd (N : Nat) (t d : List Int) (M i : Nat) (h : i < N) : rd_T26 (rowsN N t d M) (i : Int) = row t d M i := by
  unfold rd_T26 rowsN
  rw [Int.toNat_natCast, List.getD_eq_getElem?_getD, List.getElem?_eq_getElem (by simp; exact h)]; simp
def rows (s d : List Int) : List S26 := match s with
  | [] => []
  | n :: t => if arrayOk (n :: t) d = true then rowsN n.toNat t d (prod t).toNat else []
theorem rows_cons (n : Int) (t d : List Int) : rows (n :: t) d = if arrayOk (n :: t) d = true then rowsN n.toNat t d (prod t).toNat else [] := rfl
theorem wmul (a b : Nat) (h : a * b ≤ 1048576) : wrap64 ((a : Int) * (b : Int)) = ((a * b : Nat) : Int) := by
  have e : ((a * b : Nat) : Int) = (a : Int) * (b : Int) := Int.natCast_mul a b
  rw [w64] <;> omega
theorem rows_facts {n : Int} {t d : List Int} (h : arrayOk (n :: t) d = true) : 0 ≤ n ∧ n.toNat * (prod t).toNat = d.length ∧ n.toNat ≤ 300 ∧ (0 < n.toNat → szOf t = ((prod t).toNat : Int)) ∧ d.length ≤ 300 ∧ t.length ≤ 2 := by
  obtain ⟨h1, h2, h3, h4, h5⟩ := arrayOk_t h
  obtain ⟨g1, g2, g3, g4⟩ := szOf_nonneg h5
  obtain ⟨⟨a1, a2⟩, a3⟩ := inR_cons.1 g2
  have p0 := (prod_le t a3).1
  have ep : prod (n :: t) = n * prod t := rfl
  have hp : ((n.toNat * (prod t).toNat : Nat) : Int) = n * prod t := by rw [Int.natCast_mul, Int.toNat_of_nonneg a1, Int.toNat_of_nonneg p0]
  simp only [List.length_cons] at h4
  refine ⟨a1, by omega, by omega, fun hn => ?_, h3, by omega⟩
  have hle : prod t ≤ n * prod t := by
    have := Int.mul_le_mul_of_nonneg_right (show 1 ≤ n by omega) p0; rwa [Int.one_mul] at this
  unfold szOf
  rw [if_neg (by omega), if_pos a3, if_neg (by omega)]; omega
theorem row_len {N M i : Nat} {t d : List Int} (hd : N * M = d.length) (h : i < N) : (row t d M i).f1.length = M := by
  have h1 : (i + 1) * M ≤ N * M := Nat.mul_le_mul_right _ h
  have h2 : (i + 1) * M = i * M + M := Nat.succ_mul i M
  show ((d.take ((i + 1) * M)).drop (i * M)).length = M
  rw [List.length_drop, List.length_take, Nat.min_eq_left (by omega)]; omega
def flat (rs : List S26) : List Int := (rs.map (fun r => r.f1)).flatten
theorem flat_append (a b : List S26) : flat (a ++ b) = flat a ++ flat b := by unfold flat; simp
theorem flat_one (r : S26) : flat [r] = r.f1 := by unfold flat; simp
theorem flat_len (M : Nat) : ∀ (rs : List S26), (∀ r ∈ rs, r.f1.length = M) → (flat rs).length = rs.length * M
  | [], _ => by simp [flat]
  | r :: rs, h => by
    have ih := flat_len M rs (fun x hx => h x (List.mem_cons_of_mem _ hx))
    have h1 := h r (List.mem_cons_self ..)
    have e : flat (r :: rs) = r.f1 ++ flat rs := by unfold flat; simp
    rw [e, List.length_append, ih, h1, List.length_cons, Nat.succ_mul, Nat.add_comm]
theorem flat_take (rs : List S26) (i : Nat) (h : i < rs.length) : flat (rs.take (i + 1)) = flat (rs.take i) ++ rs[i].f1 := by
  rw [List.take_add_one, List.getElem?_eq_getElem h, flat_append, Option.toList_some, flat_one]
theorem rdT (rs : List S26) (i : Nat) (h : i < rs.length) : rd_T26 rs (i : Int) = rs[i] := by
  unfold rd_T26
  rw [Int.toNat_natCast, List.getD_eq_getElem?_getD, List.getElem?_eq_getElem h]; rfl
def p_Copy1 (x : Int) : Bool := decide (x < 0)
theorem lit_Copy1_eq (x : Int) : impl_Copy_lit1.f x = some (p_Copy1 x) := rfl

/-- How often the row at a place is copied. -/
def cn (b : List Int) (i : Nat) : Nat := (rd b ((i % b.length : Nat) : Int)).toNat
def tot (b : List Int) : Nat → Nat
  | 0 => 0
  | i + 1 => tot b i + cn b i
def cps (R : Nat → S26) (b : List Int) : Nat → List S26
  | 0 => []
  | i + 1 => cps R b i ++ List.replicate (cn b i) (R i)
theorem cps_length (R : Nat → S26) (b : List Int) : ∀ n, (cps R b n).length = tot b n
  | 0 => rfl
  | n + 1 => by rw [cps, tot, List.length_append, cps_length R b n, List.length_replicate]
theorem cps_mem (R : Nat → S26) (b : List Int) : ∀ (n : Nat) (r : S26), r ∈ cps R b n → ∃ i, i < n ∧ r = R i
  | 0, r, h => by simp [cps] at h
  | n + 1, r, h => by
    rw [cps, List.mem_append] at h
    rcases h with h | h
    · obtain ⟨i, hi, e⟩ := cps_mem R b n r h
      exact ⟨i, by omega, e⟩
    · exact ⟨n, by omega, (List.mem_replicate.1 h).2⟩
theorem tot_mono (b : List Int) (i : Nat) : ∀ n, i ≤ n → tot b i ≤ tot b n
  | 0, h => by have e : i = 0 := by omega
               rw [e]; exact Nat.le_refl _
  | n + 1, h => by
    by_cases e : i = n + 1
    · rw [e]; exact Nat.le_refl _
    · have := tot_mono b i n (by omega)
      rw [tot]; omega
theorem cn_eq {b : List Int} (h : ¬ b.any p_Copy1 = true) (i : Nat) (hb : 0 < b.length) : rd b ((i % b.length : Nat) : Int) = (cn b i : Int) := by
  have hlt : i % b.length < b.length := Nat.mod_lt _ hb
  unfold cn
  rw [rdn b _ hlt]
  have h2 : 0 ≤ b[i % b.length] := by
    by_cases h3 : b[i % b.length] < 0
    · exact absurd (List.any_eq_true.2 ⟨_, List.getElem_mem hlt, by unfold p_Copy1; simpa using h3⟩) h
    · omega
  omega
def copyS (b : List Int) (m : Int) (t d : List Int) : List Int × List Int × Int :=
  if b.length ≠ 1 ∧ (b.length : Int) ≠ m then ([], [], 3) else if b.any p_Copy1 = true then ([], [], 2) else
  if tot b m.toNat ≤ 300 ∧ szOf ((tot b m.toNat : Int) :: t) ≥ 0 then ((tot b m.toNat : Int) :: t, flat (cps (row t d (prod t).toNat) b m.toNat), 0) else ([], [], 6)
def copyA (a b c d : List Int) : List Int × List Int × Int :=
  if arrayOk a b = true ∧ arrayOk c d = true then
    (if a.length > 1 then ([], [], 4) else match c with
      | [] => ([], [], 4)
      | m :: t => copyS b m t d)
  else ([], [], 1)
/-- The copied rows, one behind the other. -/
theorem cps_facts {m : Int} {t d : List Int} (h : arrayOk (m :: t) d = true) (b : List Int) (h3 : tot b m.toNat ≤ 300) : (∀ r ∈ cps (row t d (prod t).toNat) b m.toNat, r.f1.length = (prod t).toNat) ∧ (flat (cps (row t d (prod t).toNat) b m.toNat)).length = tot b m.toNat * (prod t).toNat ∧ tot b m.toNat * (prod t).toNat ≤ 90000 ∧ (arrayOk ((tot b m.toNat : Int) :: t) (flat (cps (row t d (prod t).toNat) b m.toNat)) = decide (szOf ((tot b m.toNat : Int) :: t) ≥ 0)) := by
  obtain ⟨f1, f2, f3, f4, f5, f6⟩ := rows_facts h
  obtain ⟨g1, g2, g3, g4, g5⟩ := arrayOk_t h
  obtain ⟨⟨a1, a2⟩, a3⟩ := inR_cons.1 (szOf_nonneg g5).2.1
  have p0 := (prod_le t a3).1
  have hr : ∀ r ∈ cps (row t d (prod t).toNat) b m.toNat, r.f1.length = (prod t).toNat := by
    intro r hr
    obtain ⟨i, hi, rfl⟩ := cps_mem _ _ _ _ hr
    exact row_len f2 hi
  have hf := flat_len (prod t).toNat _ hr
  rw [cps_length] at hf
  have hM : tot b m.toNat * (prod t).toNat ≤ 90000 := by
    by_cases h0 : m.toNat = 0
    · rw [h0, tot, Nat.zero_mul]; omega
    · have h1 : (prod t).toNat ≤ m.toNat * (prod t).toNat := Nat.le_mul_of_pos_left _ (by omega)
      have h2 : tot b m.toNat * (prod t).toNat ≤ 300 * 300 := Nat.mul_le_mul h3 (by omega)
      omega
  refine ⟨hr, hf, hM, ?_⟩
  rw [Bool.eq_iff_iff, decide_eq_true_iff]
  constructor
  · intro ha
    exact (arrayOk_t ha).2.2.2.2
  · intro hs
    unfold arrayOk
    rw [Bool.and_eq_true, decide_eq_true_iff, hf]
    refine ⟨?_, List.all_eq_true.2 fun x hx => ?_⟩
    · rw [(szOf_nonneg hs).2.2.2]
      show _ = (tot b m.toNat : Int) * prod t
      rw [Int.natCast_mul, Int.toNat_of_nonneg p0]
    · unfold flat at hx
      rw [List.mem_flatten] at hx
      obtain ⟨l, hl, hx⟩ := hx
      rw [List.mem_map] at hl
      obtain ⟨r, hr2, rfl⟩ := hl
      obtain ⟨i, _, rfl⟩ := cps_mem _ _ _ _ hr2
      exact g2 x (List.mem_of_mem_take (List.mem_of_mem_drop hx))
theorem copyA_len (a b c d : List Int) (hc : c.length ≤ 1048576) : (copyA a b c d).1.length ≤ 1048576 ∧ (copyA a b c d).2.1.length ≤ 1048576 := by
  unfold copyA
  by_cases h : arrayOk a b = true ∧ arrayOk c d = true
  · rw [if_pos h]
    by_cases h1 : a.length > 1
    · rw [if_pos h1]; simp
    rw [if_neg h1]
    cases c with
    | nil => simp
    | cons m t =>
      dsimp only
      unfold copyS
      repeat' split
      · simp
      · simp
      · rename_i h4
        obtain ⟨_, g1, g2, _⟩ := cps_facts h.2 b h4.1
        exact ⟨by simpa using hc, by dsimp only; omega⟩
      · simp
  · rw [if_neg h]; simp

theorem impl_within_eq (a b c : Int) : impl_within.f a b c = some (decide (b ≤ a ∧ a ≤ c)) := by
  unfold impl_within.f
  by_cases h : a ≥ b
  · rw [if_pos h]; congr 1; rw [Bool.eq_iff_iff, decide_eq_true_iff, decide_eq_true_iff]; omega
  · rw [if_neg h]; congr 1; symm; rw [decide_eq_false_iff_not]; omega

theorem impl_SizeOf_l0 (l : List Int) (hl : ¬ 3 < l.length) (d : Nat) : ∀ (i : Nat), i + d = l.length → inR (l.take i) = true → Ev (fun k => impl_SizeOf.l0 k (prod (l.take i)) l (l.length : Int) (i : Int)) (if inR l = true then (if prod l > 300 then -1 else prod l) else -1) := by
  induction d with
  | zero =>
    intro i hi hr
    have e : l.take i = l := List.take_of_length_le (by omega)
    rw [e] at hr ⊢
    rw [if_pos hr]
    refine Ev.step (f := fun _ => some (if prod l > 300 then -1 else prod l)) (fun k => ?_) (Ev.now _)
    simp only [impl_SizeOf.l0]; rw [if_neg (by omega)]
    by_cases h : prod l > 300
    · rw [if_pos h, if_pos h]
    · rw [if_neg h, if_neg h]
  | succ d ih =>
    intro i hi hr
    have hlt : i < l.length := by omega
    by_cases hx : 0 ≤ l[i] ∧ l[i] ≤ 300
    · have hr' := (inR_take_succ l i hlt).2 ⟨hr, hx⟩
      refine Ev.step (f := fun k => impl_SizeOf.l0 k (prod (l.take (i + 1))) l (l.length : Int) ((i + 1 : Nat) : Int)) (fun k => ?_) (ih (i + 1) (by omega) hr')
      simp only [impl_SizeOf.l0]
      rw [if_pos (by omega), if_pos (by omega), if_pos (by omega), impl_within_eq, rdn l i hlt, decide_eq_true hx]
      simp only [Option.bind_some, if_true]
      have hp := prod_take_le l (i + 1) hl hr'
      rw [w64s i (by omega), ← prod_take_succ l i hlt, w64 (by omega) (by omega)]
    · rw [if_neg (by rw [inR_not i hlt hx]; simp)]
      refine Ev.step (f := fun _ => some (-1)) (fun k => ?_) (Ev.now _)
      simp only [impl_SizeOf.l0]
      rw [if_pos (by omega), if_pos (by omega), if_pos (by omega), impl_within_eq, rdn l i hlt, decide_eq_false hx]
      rfl
theorem impl_SizeOf_ev (l : List Int) : Ev (fun k => impl_SizeOf.f k l) (szOf l) := by
  unfold impl_SizeOf.f szOf
  by_cases h : 3 < l.length
  · rw [if_pos h]; exact evPos (by omega) (Ev.now _)
  · rw [if_neg h]
    refine evNeg (by omega) ?_
    have := impl_SizeOf_l0 l h l.length 0 (by omega) (by simp [inR])
    simpa only [List.take_zero, prod, Int.ofNat_zero, Int.natCast_zero] using this

theorem impl_NumOk_eq (a : Int) : impl_NumOk.f a = some (okN a) := by
  unfold impl_NumOk.f; rw [impl_within_eq]; rfl

def p_ArrayOk1 (x : Int) : Bool := !okN x
theorem lit_ArrayOk1_eq (x : Int) : impl_ArrayOk_lit1.f x = some (p_ArrayOk1 x) := by
  unfold impl_ArrayOk_lit1.f; rw [impl_NumOk_eq]; rfl

theorem slices_IndexFunc_ArrayOk1_l0 (l : List Int) (hl : l.length ≤ 1048576) (d : Nat) : ∀ (i : Nat), i + d = l.length → (l.take i).all (fun x => !p_ArrayOk1 x) = true → ∃ r, Ev (fun k => slices_IndexFunc_ArrayOk1.l0 k l (l.length : Int) (i : Int)) r ∧ decide (r ≥ 0) = l.any p_ArrayOk1 := by
  induction d with
  | zero =>
    intro i hi ht
    refine ⟨-1, Ev.step (f := fun _ => some (-1)) (fun k => ?_) (Ev.now _), ?_⟩
    · simp only [slices_IndexFunc_ArrayOk1.l0]; rw [if_neg (by omega)]
    · have e : l.take i = l := List.take_of_length_le (by omega)
      rw [e] at ht
      symm; rw [show decide ((-1 : Int) ≥ 0) = false by decide, List.any_eq_false]
      intro x hx
      have := List.all_eq_true.1 ht x hx
      simpa using this
  | succ d ih =>
    intro i hi ht
    have hlt : i < l.length := by omega
    by_cases hx : p_ArrayOk1 l[i] = true
    · refine ⟨(i : Int), Ev.step (f := fun _ => some (i : Int)) (fun k => ?_) (Ev.now _), ?_⟩
      · simp only [slices_IndexFunc_ArrayOk1.l0]
        rw [if_pos (by omega), if_pos (by omega), if_pos (by omega), lit_ArrayOk1_eq, rdn l i hlt]; simp only [Option.bind_some]; rw [if_pos hx]
      · rw [decide_eq_true (by omega)]; symm; rw [List.any_eq_true]; exact ⟨_, List.getElem_mem hlt, hx⟩
    · obtain ⟨r, hr, h2⟩ := ih (i + 1) (by omega) (by rw [List.take_succ_eq_append_getElem hlt, List.all_append, ht]; simp [hx])
      refine ⟨r, Ev.step (f := fun k => slices_IndexFunc_ArrayOk1.l0 k l (l.length : Int) ((i + 1 : Nat) : Int)) (fun k => ?_) hr, h2⟩
      simp only [slices_IndexFunc_ArrayOk1.l0]
      rw [if_pos (by omega), if_pos (by omega), if_pos (by omega), lit_ArrayOk1_eq, rdn l i hlt]; simp only [Option.bind_some]; rw [if_neg hx, w64s i (by omega)]
theorem slices_ContainsFunc_ArrayOk1_ev (l : List Int) (hl : l.length ≤ 1048576) : Ev (fun k => slices_ContainsFunc_ArrayOk1.f k l) (l.any p_ArrayOk1) := by
  unfold slices_ContainsFunc_ArrayOk1.f slices_IndexFunc_ArrayOk1.f
  obtain ⟨r, hr, h⟩ := slices_IndexFunc_ArrayOk1_l0 l hl l.length 0 (by omega) (by simp)
  exact Ev.bind hr (evSome h)

theorem all_okN (d : List Int) : (!d.any p_ArrayOk1) = d.all okN := by
  rw [List.not_any_eq_all_not]; congr 1; funext x; simp [p_ArrayOk1]
theorem impl_ArrayOk_ev (s d : List Int) (hd : d.length ≤ 1048576) : Ev (fun k => impl_ArrayOk.f k s d) (arrayOk s d) := by
  unfold impl_ArrayOk.f arrayOk
  refine Ev.bind (impl_SizeOf_ev s) ?_
  by_cases h : (d.length : Int) = szOf s
  · exact evPos h (Ev.bind (slices_ContainsFunc_ArrayOk1_ev d hd) (evSome (by rw [all_okN, decide_eq_true h]; rfl)))
  · exact evNeg h (evSome (by rw [decide_eq_false h]; rfl))

theorem impl_copyArray_eq (s d : List Int) (hs : s.length ≤ 1048576) (hd : d.length ≤ 1048576) : impl_copyArray.f s d = some (s, d) := by
  unfold impl_copyArray.f
  rw [if_pos (by rw [List.length_nil]; omega), if_pos (by rw [List.length_nil]; omega)]; rfl

theorem impl_Rows_l0 (n : Int) (t d : List Int) (N M : Nat) (hn : n = (N : Int)) (hd : N * M = d.length) (hN : N ≤ 300) (hz : 0 < N → szOf t = (M : Int)) (h3 : d.length ≤ 300) (ht : t.length ≤ 2) (c : Nat) : ∀ (i : Nat) (o : List S26), i + c = N → o = (List.range i).map (row t d M) → Ev (fun k => impl_Rows.l0 k (szOf t) o (i : Int) (n :: t) d) (rowsN N t d M) := by
  induction c with
  | zero =>
    intro i o hi ho
    refine Ev.step (fun k => by rw [impl_Rows.l0]) ?_
    refine evPos (by simp only [List.length_cons]; omega) (evNeg ?_ (evSome ?_))
    · show ¬ (i : Int) < n; omega
    · rw [ho, show i = N by omega]; rfl
  | succ c ih =>
    intro i o hi ho
    have h1 : (i + 1) * M ≤ N * M := Nat.mul_le_mul_right _ (by omega)
    have h2 : (i + 1) * M = i * M + M := Nat.succ_mul i M
    have hol : o.length = i := by rw [ho]; simp
    refine Ev.step (fun k => by rw [impl_Rows.l0]) ?_
    refine evPos (by simp only [List.length_cons]; omega) (evPos ?_ (evPos (by simp only [List.length_cons]; omega) ?_))
    · show (i : Int) < n; omega
    rw [hz (by omega), w64s i (by omega), wmul i M (by omega), wmul (i + 1) M (by omega), Int.toNat_natCast, Int.toNat_natCast]
    refine evPos (by omega) (evPos (by omega) (evPos (by omega) (evBind0 (impl_copyArray_eq _ _ (by simp; omega) (by simp; omega)) ?_)))
    refine evPos (by omega) ?_
    rw [← hz (by omega)]
    exact ih (i + 1) _ (by omega) (by rw [ho, List.range_succ, List.map_append]; rfl)
theorem impl_Rows_ev (s d : List Int) (hd : d.length ≤ 1048576) : Ev (fun k => impl_Rows.f k s d) (rows s d) := by
  unfold impl_Rows.f
  refine Ev.bind (impl_ArrayOk_ev s d hd) ?_
  have hbad : Ev (fun k => impl_Rows.j0 k true s d) ([] : List S26) := Ev.step (fun k => by rw [impl_Rows.j0]) (evPos rfl (Ev.now _))
  cases s with
  | nil =>
    by_cases h : arrayOk [] d = true
    · exact evPos h hbad
    · exact evNeg h hbad
  | cons n t =>
    rw [rows_cons]
    by_cases h : arrayOk (n :: t) d = true
    · obtain ⟨f1, f2, f3, f4, f5, f6⟩ := rows_facts h
      rw [if_pos h]
      have e : (((n :: t).length : Int) == 0) = false := by
        rw [beq_eq_false_iff_ne]; simp only [List.length_cons]; omega
      refine evPos h ?_
      rw [e]
      refine Ev.step (fun k => by rw [impl_Rows.j0]) ?_
      refine evNeg (by simp) (evPos (by simp only [List.length_cons]; omega) (Ev.bind (impl_SizeOf_ev t) ?_))
      exact impl_Rows_l0 n t d n.toNat (prod t).toNat (Int.toNat_of_nonneg f1).symm f2 f3 f4 f5 f6 n.toNat 0 [] (by omega) rfl
    · rw [if_neg h]; exact evNeg h hbad

theorem impl_joined_l0 (rs : List S26) (s : List Int) (M : Nat) (hM : ∀ r ∈ rs, r.f1.length = M) (hl : rs.length * M ≤ 1048576) (h3 : rs.length ≤ 300) (n : Nat) : ∀ (i : Nat), i + n = rs.length → Ev (fun k => impl_joined.l0 k rs (rs.length : Int) (i : Int) s (flat (rs.take i))) (if arrayOk s (flat rs) = true then (s, flat rs, 0) else ([], [], 6)) := by
  have hf : (flat rs).length ≤ 1048576 := by rw [flat_len M rs hM]; omega
  induction n with
  | zero =>
    intro i hi
    rw [List.take_of_length_le (by omega)]
    refine Ev.step (fun k => by rw [impl_joined.l0]) ?_
    refine evNeg (by omega) (Ev.bind (impl_ArrayOk_ev s (flat rs) hf) ?_)
    by_cases h : arrayOk s (flat rs) = true
    · exact evEq (evPos h (Ev.now _)) (if_pos h).symm
    · exact evEq (evNeg h (Ev.now _)) (if_neg h).symm
  | succ n ih =>
    intro i hi
    have hlt : i < rs.length := by omega
    have ih' := ih (i + 1) (by omega)
    rw [flat_take rs i hlt] at ih'
    have h1 := flat_len M (rs.take i) (fun r hr => hM r (List.mem_of_mem_take hr))
    rw [List.length_take, Nat.min_eq_left (by omega)] at h1
    have h2 : i * M ≤ rs.length * M := Nat.mul_le_mul_right _ (by omega)
    have h4 : M ≤ rs.length * M := Nat.le_mul_of_pos_left _ (by omega)
    have h5 := hM rs[i] (List.getElem_mem hlt)
    refine Ev.step (fun k => by rw [impl_joined.l0]) ?_
    refine evPos (by omega) (evPos (by omega) (evPos (by omega) ?_))
    rw [rdT rs i hlt, w64s i (by omega)]
    exact evPos (by omega) ih'
theorem impl_joined_evG (rs : List S26) (t : List Int) (M : Nat) (hM : ∀ r ∈ rs, r.f1.length = M) (hl : rs.length * M ≤ 1048576) (h3 : rs.length ≤ 300) (ht : t.length ≤ 300) : Ev (fun k => impl_joined.f k rs t) (if arrayOk ((rs.length : Int) :: t) (flat rs) = true then ((rs.length : Int) :: t, flat rs, 0) else ([], [], 6)) := by
  unfold impl_joined.f
  refine evLet ?_
  refine evPos (by simp only [List.length_cons, List.length_nil]; omega) ?_
  exact impl_joined_l0 rs ((rs.length : Int) :: t) M hM hl h3 rs.length 0 (by omega)
theorem slices_IndexFunc_Copy1_l0 (l : List Int) (hl : l.length ≤ 1048576) (d : Nat) : ∀ (i : Nat), i + d = l.length → (l.take i).all (fun x => !p_Copy1 x) = true → ∃ r, Ev (fun k => slices_IndexFunc_Copy1.l0 k l (l.length : Int) (i : Int)) r ∧ decide (r ≥ 0) = l.any p_Copy1 := by
  induction d with
  | zero =>
    intro i hi ht
    refine ⟨-1, Ev.step (f := fun _ => some (-1)) (fun k => ?_) (Ev.now _), ?_⟩
    · simp only [slices_IndexFunc_Copy1.l0]; rw [if_neg (by omega)]
    · have e : l.take i = l := List.take_of_length_le (by omega)
      rw [e] at ht
      symm; rw [show decide ((-1 : Int) ≥ 0) = false by decide, List.any_eq_false]
      intro x hx
      have := List.all_eq_true.1 ht x hx
      simpa using this
  | succ d ih =>
    intro i hi ht
    have hlt : i < l.length := by omega
    by_cases hx : p_Copy1 l[i] = true
    · refine ⟨(i : Int), Ev.step (f := fun _ => some (i : Int)) (fun k => ?_) (Ev.now _), ?_⟩
      · simp only [slices_IndexFunc_Copy1.l0]
        rw [if_pos (by omega), if_pos (by omega), if_pos (by omega), lit_Copy1_eq, rdn l i hlt]; simp only [Option.bind_some]; rw [if_pos hx]
      · rw [decide_eq_true (by omega)]; symm; rw [List.any_eq_true]; exact ⟨_, List.getElem_mem hlt, hx⟩
    · obtain ⟨r, hr, h2⟩ := ih (i + 1) (by omega) (by rw [List.take_succ_eq_append_getElem hlt, List.all_append, ht]; simp [hx])
      refine ⟨r, Ev.step (f := fun k => slices_IndexFunc_Copy1.l0 k l (l.length : Int) ((i + 1 : Nat) : Int)) (fun k => ?_) hr, h2⟩
      simp only [slices_IndexFunc_Copy1.l0]
      rw [if_pos (by omega), if_pos (by omega), if_pos (by omega), lit_Copy1_eq, rdn l i hlt]; simp only [Option.bind_some]; rw [if_neg hx, w64s i (by omega)]
theorem slices_ContainsFunc_Copy1_ev (l : List Int) (hl : l.length ≤ 1048576) : Ev (fun k => slices_ContainsFunc_Copy1.f k l) (l.any p_Copy1) := by
  unfold slices_ContainsFunc_Copy1.f slices_IndexFunc_Copy1.f
  obtain ⟨r, hr, h⟩ := slices_IndexFunc_Copy1_l0 l hl l.length 0 (by omega) (by simp)
  exact Ev.bind hr (evSome h)

theorem impl_Copy_l1 (a b c d f0 f1 : List Int) (rs : List S26) (len i1 : Int) (i : Nat) (hi1 : i1 = (i : Int)) (hi : i ≤ 300) (v : List Int × List Int × Int) (n : Nat) : ∀ (o : List S26), o.length + n ≤ 300 → Ev (fun k => impl_Copy.l0 k (o ++ List.replicate n ⟨f0, f1⟩) rs len ((i + 1 : Nat) : Int) a b c d) v → Ev (fun k => impl_Copy.l1 k o (n : Int) rs len i1 a b c d f0 f1) v := by
  subst hi1
  induction n with
  | zero =>
    intro o ho h
    refine Ev.step (fun k => by rw [impl_Copy.l1]) (evNeg (by omega) ?_)
    rw [w64s i (by omega)]
    simpa using h
  | succ n ih =>
    intro o ho h
    refine Ev.step (fun k => by rw [impl_Copy.l1]) (evPos (by omega) (evPos (by omega) ?_))
    rw [w64 (x := ((n + 1 : Nat) : Int) - 1) (by omega) (by omega), show ((n + 1 : Nat) : Int) - 1 = (n : Int) by omega]
    refine ih _ (by rw [List.length_append, List.length_singleton]; omega) ?_
    rw [List.append_assoc]
    exact h
theorem impl_Copy_l0 (a b : List Int) (m : Int) (t d : List Int) (h : arrayOk (m :: t) d = true) (hb : ¬ b.any p_Copy1 = true) (hl : b.length = 1 ∨ (b.length : Int) = m) (q : Nat) : ∀ (i : Nat), i + q = m.toNat → tot b i ≤ 300 → Ev (fun k => impl_Copy.l0 k (cps (row t d (prod t).toNat) b i) (rowsN m.toNat t d (prod t).toNat) (m.toNat : Int) (i : Int) a b (m :: t) d) (if tot b m.toNat ≤ 300 ∧ szOf ((tot b m.toNat : Int) :: t) ≥ 0 then ((tot b m.toNat : Int) :: t, flat (cps (row t d (prod t).toNat) b m.toNat), 0) else ([], [], 6)) := by
  obtain ⟨f1, f2, f3, f4, f5, f6⟩ := rows_facts h
  have hL := rowsN_length m.toNat t d (prod t).toNat
  induction q with
  | zero =>
    intro i hi ht
    have e : i = m.toNat := by omega
    subst e
    obtain ⟨c1, c2, c3, c4⟩ := cps_facts h b ht
    have hlen := cps_length (row t d (prod t).toNat) b m.toNat
    have hj := impl_joined_evG (cps (row t d (prod t).toNat) b m.toNat) t (prod t).toNat c1 (by rw [hlen]; omega) (by omega) (by omega)
    rw [hlen, c4] at hj
    refine Ev.step (fun k => by rw [impl_Copy.l0]) (evNeg (by omega) (evPos (by simp only [List.length_cons]; omega) ?_))
    rw [List.drop_succ_cons, List.drop_zero]
    by_cases hs : szOf ((tot b m.toNat : Int) :: t) ≥ 0
    · rw [if_pos (decide_eq_true hs)] at hj
      exact evEq (Ev.bind hj (Ev.now _)) (if_pos (And.intro ht hs)).symm
    · rw [if_neg (by simpa using hs)] at hj
      exact evEq (Ev.bind hj (Ev.now _)) (if_neg (fun hh : _ ∧ _ => hs hh.2)).symm
  | succ q ih =>
    intro i hi ht
    have hb0 : 0 < b.length := by omega
    have hlen := cps_length (row t d (prod t).toNat) b i
    have hc := cn_eq hb i hb0
    have hj4 : Ev (fun k => impl_Copy.j4 k (cps (row t d (prod t).toNat) b i) (cn b i : Int) (rowsN m.toNat t d (prod t).toNat) (m.toNat : Int) (i : Int) a b (m :: t) d (row t d (prod t).toNat i).f0 (row t d (prod t).toNat i).f1) (if tot b m.toNat ≤ 300 ∧ szOf ((tot b m.toNat : Int) :: t) ≥ 0 then ((tot b m.toNat : Int) :: t, flat (cps (row t d (prod t).toNat) b m.toNat), 0) else ([], [], 6)) := by
      refine Ev.step (fun k => by rw [impl_Copy.j4]) ?_
      rw [w64 (x := 300 - ((cps (row t d (prod t).toNat) b i).length : Int)) (by omega) (by omega)]
      by_cases h5 : (cn b i : Int) > 300 - ((cps (row t d (prod t).toNat) b i).length : Int)
      · have hm := tot_mono b (i + 1) m.toNat (by omega)
        rw [tot] at hm
        exact evEq (evPos h5 (Ev.now _)) (if_neg (fun hh : _ ∧ _ => by omega)).symm
      · refine evNeg h5 (impl_Copy_l1 a b (m :: t) d _ _ _ _ _ i rfl (by omega) _ (cn b i) _ (by omega) ?_)
        have := ih (i + 1) (by omega) (by rw [tot]; omega)
        rw [cps] at this
        exact this
    refine Ev.step (fun k => by rw [impl_Copy.l0]) (evPos (by omega) (evPos (by omega) (evPos (by omega) (evPos (by omega) ?_))))
    rw [rowsN_rd m.toNat t d (prod t).toNat i (by omega)]
    by_cases h6 : b.length > 1
    · have e : rd b (i : Int) = (cn b i : Int) := by
        rw [← hc, Nat.mod_eq_of_lt (by omega)]
      rw [e]
      exact evPos (by omega) (evPos (by omega) hj4)
    · have e : rd b 0 = (cn b i : Int) := by
        rw [← hc, show b.length = 1 by omega, Nat.mod_one]; rfl
      rw [e]
      exact evNeg (by omega) hj4
theorem impl_Copy_ev (a b c d : List Int) (hb : b.length ≤ 1048576) (hd : d.length ≤ 1048576) : Ev (fun k => impl_Copy.f k a b c d) (copyA a b c d) := by
  unfold impl_Copy.f copyA
  refine Ev.bind (impl_ArrayOk_ev a b hb) ?_
  have hbad : Ev (fun k => impl_Copy.j0 k true a b c d) ([], [], 1) := Ev.step (fun k => by rw [impl_Copy.j0]) (evPos rfl (Ev.now _))
  by_cases h1 : arrayOk a b = true
  · refine evPos h1 (Ev.bind (impl_ArrayOk_ev c d hd) ?_)
    by_cases h2 : arrayOk c d = true
    · rw [h2]
      refine evEq ?_ (if_pos (And.intro h1 rfl)).symm
      have hrank : Ev (fun k => impl_Copy.j1 k true a b c d) ([], [], 4) := Ev.step (fun k => by rw [impl_Copy.j1]) (evPos rfl (Ev.now _))
      refine Ev.step (fun k => by rw [impl_Copy.j0]) (evNeg (by simp) ?_)
      by_cases h3 : a.length > 1
      · exact evEq (evPos (by omega) hrank) (if_pos h3).symm
      refine evEq (evNeg (by omega) ?_) (if_neg h3).symm
      cases c with
      | nil => exact hrank
      | cons m t =>
        obtain ⟨f1, f2, f3, f4, f5, f6⟩ := rows_facts h2
        dsimp only
        rw [show (((m :: t).length : Int) == 0) = false by rw [beq_eq_false_iff_ne]; simp only [List.length_cons]; omega]
        unfold copyS
        have e0 : rd (m :: t) 0 = m := rfl
        have hj2 : ∀ x : Bool, x = decide (b.length ≠ 1 ∧ (b.length : Int) ≠ m) → Ev (fun k => impl_Copy.j2 k x a b (m :: t) d) (if b.length ≠ 1 ∧ (b.length : Int) ≠ m then ([], [], 3) else if b.any p_Copy1 = true then ([], [], 2) else if tot b m.toNat ≤ 300 ∧ szOf ((tot b m.toNat : Int) :: t) ≥ 0 then ((tot b m.toNat : Int) :: t, flat (cps (row t d (prod t).toNat) b m.toNat), 0) else ([], [], 6)) := by
          intro x hx
          refine Ev.step (fun k => by rw [impl_Copy.j2]) ?_
          by_cases h4 : b.length ≠ 1 ∧ (b.length : Int) ≠ m
          · rw [hx, decide_eq_true h4]
            exact evEq (evPos rfl (Ev.now _)) (if_pos h4).symm
          · rw [hx, decide_eq_false h4]
            refine evEq (evNeg (by simp) (Ev.bind (slices_ContainsFunc_Copy1_ev b hb) ?_)) (if_neg h4).symm
            by_cases h5 : b.any p_Copy1 = true
            · exact evEq (evPos h5 (Ev.now _)) (if_pos h5).symm
            · refine evEq (evNeg h5 (Ev.bind (impl_Rows_ev (m :: t) d hd) ?_)) (if_neg h5).symm
              rw [rows_cons, if_pos h2, rowsN_length]
              exact impl_Copy_l0 a b m t d h2 h5 (by omega) m.toNat 0 (by omega) (Nat.zero_le _)
        refine Ev.step (fun k => by rw [impl_Copy.j1]) (evNeg (by simp) ?_)
        by_cases h4 : b.length = 1
        · exact evPos (by omega) (hj2 false (by symm; rw [decide_eq_false_iff_not]; exact fun hh => hh.1 h4))
        · refine evNeg (by omega) (evPos (by simp only [List.length_cons]; omega) ?_)
          rw [e0]
          refine hj2 _ ?_
          rw [Bool.eq_iff_iff, decide_eq_true_iff, bne_iff_ne]
          exact ⟨fun hh => ⟨h4, hh⟩, fun hh => hh.2⟩
    · rw [Bool.eq_false_iff.2 h2]
      exact evEq hbad (if_neg (fun hh : _ ∧ _ => absurd hh.2 (by simp))).symm
  · exact evEq (evNeg h1 hbad) (if_neg (fun hh : _ ∧ _ => h1 hh.1)).symm

theorem spec_l1In_eq (a b c : Int) : spec_l1In.f a b c = some (decide (b ≤ a ∧ a ≤ c)) := by
  unfold spec_l1In.f
  by_cases h : a ≥ b
  · rw [if_pos h]; congr 1; rw [Bool.eq_iff_iff, decide_eq_true_iff, decide_eq_true_iff]; omega
  · rw [if_neg h]; congr 1; symm; rw [decide_eq_false_iff_not]; omega

theorem spec_SizeOf_l1 (l : List Int) (hl : ¬ 3 < l.length) (z : Bool) (hr : inR l = true) (hz : z = true → prod l = 0) (d : Nat) : ∀ (i : Nat), i + d = l.length → Ev (fun k => spec_SizeOf.l1 k l z (prod (l.take i)) (i : Int)) (if prod l > 300 then -1 else prod l) := by
  induction d with
  | zero =>
    intro i hi
    have e : l.take i = l := List.take_of_length_le (by omega)
    rw [e]
    refine Ev.step (f := fun _ => some (if prod l > 300 then -1 else prod l)) (fun k => ?_) (Ev.now _)
    simp only [spec_SizeOf.l1]; rw [if_neg (by omega)]
    by_cases h : prod l > 300
    · rw [if_pos h, if_pos h]
      rw [if_neg (by intro hh; have := hz hh; omega)]
    · rw [if_neg h, if_neg h]
  | succ d ih =>
    intro i hi
    have hlt : i < l.length := by omega
    have hr' := inR_take (i + 1) hr
    refine Ev.step (f := fun k => spec_SizeOf.l1 k l z (prod (l.take (i + 1))) ((i + 1 : Nat) : Int)) (fun k => ?_) (ih (i + 1) (by omega))
    simp only [spec_SizeOf.l1]
    have hp := prod_take_le l (i + 1) hl hr'
    rw [if_pos (by omega), if_pos (by omega), rdn l i hlt, w64s i (by omega), ← prod_take_succ l i hlt, w64 (by omega) (by omega)]
theorem prod_zero (l : List Int) (h : l.any (· == 0) = true) : prod l = 0 := by
  induction l with
  | nil => simp at h
  | cons a l ih =>
    rw [List.any_cons, Bool.or_eq_true] at h
    rcases h with h | h
    · have : a = 0 := by simpa using h
      rw [prod, this, Int.zero_mul]
    · rw [prod, ih h, Int.mul_zero]
theorem spec_SizeOf_l0 (l : List Int) (hl : ¬ 3 < l.length) (d : Nat) : ∀ (i : Nat) (z : Bool), i + d = l.length → inR (l.take i) = true → z = (l.take i).any (· == 0) → Ev (fun k => spec_SizeOf.l0 k l z (i : Int)) (if inR l = true then (if prod l > 300 then -1 else prod l) else -1) := by
  induction d with
  | zero =>
    intro i z hi hr hz
    have e : l.take i = l := List.take_of_length_le (by omega)
    rw [e] at hr hz
    rw [if_pos hr]
    refine Ev.step (f := fun k => spec_SizeOf.l1 k l z 1 0) (fun k => ?_) ?_
    · simp only [spec_SizeOf.l0]; rw [if_neg (by omega)]
    · exact spec_SizeOf_l1 l hl z hr (fun h => prod_zero l (by rw [← hz]; exact h)) l.length 0 (by omega)
  | succ d ih =>
    intro i z hi hr hz
    have hlt : i < l.length := by omega
    by_cases hx : 0 ≤ l[i] ∧ l[i] ≤ 300
    · have hr' := (inR_take_succ l i hlt).2 ⟨hr, hx⟩
      refine Ev.step (f := fun k => spec_SizeOf.l0 k l ((l.take (i + 1)).any (· == 0)) ((i + 1 : Nat) : Int)) (fun k => ?_) (ih (i + 1) _ (by omega) hr' rfl)
      simp only [spec_SizeOf.l0]
      rw [if_pos (by omega), if_pos (by omega), spec_l1In_eq, rdn l i hlt, decide_eq_true hx]
      simp only [Option.bind_some, if_true]
      rw [w64s i (by omega), List.take_succ_eq_append_getElem hlt, List.any_append, ← hz]
      cases z with
      | true => simp
      | false => simp
    · rw [if_neg (by rw [inR_not i hlt hx]; simp)]
      refine Ev.step (f := fun _ => some (-1)) (fun k => ?_) (Ev.now _)
      simp only [spec_SizeOf.l0]
      rw [if_pos (by omega), if_pos (by omega), spec_l1In_eq, rdn l i hlt, decide_eq_false hx]
      rfl
theorem spec_SizeOf_ev (l : List Int) : Ev (fun k => spec_SizeOf.f k l) (szOf l) := by
  unfold spec_SizeOf.f szOf
  by_cases h : 3 < l.length
  · rw [if_pos h]; exact evPos (by omega) (Ev.now _)
  · rw [if_neg h]
    refine evNeg (by omega) ?_
    exact spec_SizeOf_l0 l h l.length 0 false (by omega) (by simp [inR]) (by simp)

theorem spec_NumOk_eq (a : Int) : spec_NumOk.f a = some (okN a) := by
  unfold spec_NumOk.f; rw [spec_l1In_eq]; rfl

theorem spec_ArrayOk_l0 (s l : List Int) (hl : l.length ≤ 1048576) (d : Nat) : ∀ (i : Nat), i + d = l.length → (l.take i).all okN = true → Ev (fun k => spec_ArrayOk.l0 k (i : Int) s l) (l.all okN) := by
  induction d with
  | zero =>
    intro i hi ht
    refine Ev.step (f := fun _ => some true) (fun k => ?_) (evSome ?_)
    · simp only [spec_ArrayOk.l0]; rw [if_neg (by omega)]
    · rw [List.take_of_length_le (by omega)] at ht; exact ht.symm
  | succ d ih =>
    intro i hi ht
    have hlt : i < l.length := by omega
    by_cases hx : okN l[i] = true
    · refine Ev.step (f := fun k => spec_ArrayOk.l0 k ((i + 1 : Nat) : Int) s l) (fun k => ?_) (ih (i + 1) (by omega) (by rw [List.take_succ_eq_append_getElem hlt, List.all_append, ht]; simp [hx]))
      simp only [spec_ArrayOk.l0]
      rw [if_pos (by omega), if_pos (by omega), spec_NumOk_eq, rdn l i hlt]; simp only [Option.bind_some]; rw [if_pos hx, w64s i (by omega)]
    · refine Ev.step (f := fun _ => some false) (fun k => ?_) (evSome ?_)
      · simp only [spec_ArrayOk.l0]
        rw [if_pos (by omega), if_pos (by omega), spec_NumOk_eq, rdn l i hlt]; simp only [Option.bind_some]; rw [if_neg hx]
      · symm; rw [List.all_eq_false]; exact ⟨_, List.getElem_mem hlt, hx⟩
theorem spec_ArrayOk_ev (s d : List Int) (hd : d.length ≤ 1048576) : Ev (fun k => spec_ArrayOk.f k s d) (arrayOk s d) := by
  unfold spec_ArrayOk.f arrayOk
  refine Ev.bind (spec_SizeOf_ev s) ?_
  by_cases h : szOf s = (d.length : Int)
  · refine evPos h (evEq (spec_ArrayOk_l0 s d hd d.length 0 (by omega) (by simp)) ?_)
    rw [decide_eq_true h.symm]; rfl
  · exact evNeg h (evSome (by rw [decide_eq_false (fun e => h e.symm)]; rfl))

theorem spec_l3Rows_l0 (n : Int) (t d : List Int) (N M : Nat) (hn : n = (N : Int)) (hd : N * M = d.length) (hN : N ≤ 300) (hz : 0 < N → szOf t = (M : Int)) (h3 : d.length ≤ 300) (ht : t.length ≤ 2) (c : Nat) : ∀ (i : Nat) (o : List S26), i + c = N → o = (List.range i).map (row t d M) → Ev (fun k => spec_l3Rows.l0 k o (szOf t) (i : Int) (n :: t) d) (rowsN N t d M) := by
  induction c with
  | zero =>
    intro i o hi ho
    refine Ev.step (fun k => by rw [spec_l3Rows.l0]) ?_
    refine evPos (by simp only [List.length_cons]; omega) (evNeg ?_ (evSome ?_))
    · show ¬ (i : Int) < n; omega
    · rw [ho, show i = N by omega]; rfl
  | succ c ih =>
    intro i o hi ho
    have h1 : (i + 1) * M ≤ N * M := Nat.mul_le_mul_right _ (by omega)
    have h2 : (i + 1) * M = i * M + M := Nat.succ_mul i M
    have hol : o.length = i := by rw [ho]; simp
    have hiN : (i : Int) < n := by omega
    have hL : t.length < 17592186044416 := by omega
    have hO : o.length < 2932031007402 := by omega
    have hN0 : 0 < N := by omega
    have hM1 : i * M ≤ 1048576 := by omega
    have q1 : (0 : Int) ≤ ((i * M : Nat) : Int) := by omega
    have q2 : ((i * M : Nat) : Int) ≤ (((i + 1) * M : Nat) : Int) := by omega
    have q3 : (((i + 1) * M : Nat) : Int) ≤ (d.length : Int) := by omega
    have q4 : (i + 1) * M - i * M < 17592186044416 := by omega
    have q5 : (i + 1) * M ≤ d.length := by omega
    have q6 : wrap64 ((i : Int) + 1) = ((i + 1 : Nat) : Int) ∧ (i + 1) + c = N := ⟨w64s i (by omega), by omega⟩
    have hw : wrap64 (((i * M : Nat) : Int) + (M : Int)) = (((i + 1) * M : Nat) : Int) := by
      rw [h2] at h1 ⊢
      rw [w64 (by omega) (by omega), Int.natCast_add]
    have e1 : wrap64 ((i : Int) * szOf t) = ((i * M : Nat) : Int) := by rw [hz hN0, wmul i M hM1]
    have e2 : wrap64 (wrap64 ((i : Int) * szOf t) + szOf t) = (((i + 1) * M : Nat) : Int) := by rw [e1, hz hN0, hw]
    refine Ev.step (fun k => by rw [spec_l3Rows.l0]) ?_
    simp only [Option.bind_some, List.length_nil, List.nil_append, Nat.zero_add, List.drop_succ_cons, List.drop_zero]
    refine evPos (by simp only [List.length_cons]; exact Int.natCast_pos.2 (Nat.succ_pos _)) ?_
    refine evPos (show (i : Int) < n from hiN) ?_
    refine evPos (by simp only [List.length_cons]; exact Int.natCast_pos.2 (Nat.succ_pos _)) ?_
    refine evPos hL ?_
    refine evPos (by rw [e1]; exact q1) ?_
    refine evPos (by rw [e2, e1]; exact q2) ?_
    refine evPos (by rw [e2]; exact q3) ?_
    refine evPos (by rw [e2, e1, Int.toNat_natCast, Int.toNat_natCast, List.length_drop, List.length_take, Nat.min_eq_left q5]; exact q4) ?_
    refine evPos hO ?_
    rw [e2, e1, Int.toNat_natCast, Int.toNat_natCast, q6.1]
    exact ih (i + 1) _ q6.2 (by rw [ho, List.range_succ, List.map_append]; rfl)
theorem spec_l3Rows_ev (n : Int) (t d : List Int) (h : arrayOk (n :: t) d = true) : Ev (fun k => spec_l3Rows.f k (n :: t) d) (rowsN n.toNat t d (prod t).toNat) := by
  obtain ⟨f1, f2, f3, f4, f5, f6⟩ := rows_facts h
  unfold spec_l3Rows.f
  refine evPos (by simp only [List.length_cons]; omega) (Ev.bind (spec_SizeOf_ev t) ?_)
  exact spec_l3Rows_l0 n t d n.toNat (prod t).toNat (Int.toNat_of_nonneg f1).symm f2 f3 f4 f5 f6 n.toNat 0 [] (by omega) rfl

theorem spec_ShapeOk_ev (l : List Int) : Ev (fun k => spec_ShapeOk.f k l) (decide (szOf l ≥ 0)) := by
  unfold spec_ShapeOk.f
  exact Ev.bind (spec_SizeOf_ev l) (Ev.now _)

theorem spec_Copy_l3 (a b s : List Int) (rs : List S26) (j : Nat) (hj : j < rs.length) (hb : ¬ b.any p_Copy1 = true) (hb0 : 0 < b.length) (M B : Nat) (hM : rs[j].f1.length = M) (v : List Int × List Int × Int) (hB : B ≤ 1048576) (h3 : rs.length ≤ 300) (q : Nat) : ∀ (i : Nat) (o : List Int), i + q = cn b j → cn b j ≤ 300 → o.length + q * M ≤ B → Ev (fun k => spec_Copy.l2 k rs ((j + 1 : Nat) : Int) a b s (o ++ flat (List.replicate q rs[j]))) v → Ev (fun k => spec_Copy.l3 k rs (j : Int) (i : Int) a b s o) v := by
  have hc := cn_eq hb j hb0
  have e1 : Int.tmod (j : Int) (b.length : Int) = ((j % b.length : Nat) : Int) := by rw [Int.tmod_eq_emod_of_nonneg (by omega)]; rfl
  have hlt : j % b.length < b.length := Nat.mod_lt _ hb0
  induction q with
  | zero =>
    intro i o hi h300 ho h
    refine Ev.step (fun k => by rw [spec_Copy.l3]) (evNeg (by omega) ?_)
    rw [e1, hc, w64s j (by omega)]
    refine evPos (by omega) (evPos (by omega) (evNeg (by omega) ?_))
    simpa [flat] using h
  | succ q ih =>
    intro i o hi h300 ho h
    have h5 : (q + 1) * M = q * M + M := Nat.succ_mul q M
    refine Ev.step (fun k => by rw [spec_Copy.l3]) (evNeg (by omega) ?_)
    rw [e1, hc, rdT rs j hj, w64s i (by omega)]
    refine evPos (by omega) (evPos (by omega) (evPos (by omega) (evPos (by omega) (evPos (by omega) (evPos (by omega) ?_)))))
    refine ih (i + 1) _ (by omega) h300 (by rw [List.length_append]; omega) ?_
    rw [List.append_assoc, ← flat_one rs[j], ← flat_append]
    exact h
theorem spec_Copy_l2 (a b : List Int) (m : Int) (t d : List Int) (h : arrayOk (m :: t) d = true) (hb : ¬ b.any p_Copy1 = true) (hl : b.length = 1 ∨ (b.length : Int) = m) (hT : tot b m.toNat ≤ 300) (s : List Int) (q : Nat) : ∀ (i : Nat), i + q = m.toNat → Ev (fun k => spec_Copy.l2 k (rowsN m.toNat t d (prod t).toNat) (i : Int) a b s (flat (cps (row t d (prod t).toNat) b i))) (s, flat (cps (row t d (prod t).toNat) b m.toNat), 0) := by
  obtain ⟨f1, f2, f3, f4, f5, f6⟩ := rows_facts h
  obtain ⟨c1, c2, c3, c4⟩ := cps_facts h b hT
  have hL := rowsN_length m.toNat t d (prod t).toNat
  induction q with
  | zero =>
    intro i hi
    rw [show i = m.toNat by omega]
    refine Ev.step (fun k => by rw [spec_Copy.l2]) (evNeg (by omega) (Ev.now _))
  | succ q ih =>
    intro i hi
    have hlt : i < (rowsN m.toNat t d (prod t).toNat).length := by omega
    have hg : (rowsN m.toNat t d (prod t).toNat)[i] = row t d (prod t).toNat i := by rw [← rdT _ i hlt, rowsN_rd m.toNat t d (prod t).toNat i (by omega)]
    have hrl : (row t d (prod t).toNat i).f1.length = (prod t).toNat := row_len f2 (by omega)
    have hm1 := tot_mono b (i + 1) m.toNat (by omega)
    rw [tot] at hm1
    have hfl : (flat (cps (row t d (prod t).toNat) b i)).length = tot b i * (prod t).toNat := by
      have := flat_len (prod t).toNat (cps (row t d (prod t).toNat) b i) (fun r hr => by
        obtain ⟨z, hz, rfl⟩ := cps_mem _ _ _ _ hr
        exact row_len f2 (by omega))
      rw [cps_length] at this
      exact this
    have hsum : tot b i * (prod t).toNat + cn b i * (prod t).toNat ≤ tot b m.toNat * (prod t).toNat := by
      rw [← Nat.add_mul]; exact Nat.mul_le_mul_right _ hm1
    refine Ev.step (fun k => by rw [spec_Copy.l2]) (evPos (by omega) ?_)
    refine spec_Copy_l3 a b s _ i hlt hb (by omega) (prod t).toNat 90000 (by rw [hg]; exact hrl) _ (by omega) (by omega) (cn b i) 0 _ (by omega) (by omega) (by omega) ?_
    have := ih (i + 1) (by omega)
    rw [cps, flat_append] at this
    rw [hg]
    exact this
theorem spec_l1Min_301 (x : Int) : spec_l1Min.f x 301 = some (mn x 301) := by
  unfold spec_l1Min.f mn
  split <;> split <;> first | rfl | (congr 1; omega) | omega
theorem spec_Copy_l1 (a b : List Int) (m : Int) (t d : List Int) (h : arrayOk (m :: t) d = true) (hb : ¬ b.any p_Copy1 = true) (hN : ∀ x ∈ b, okN x = true) (hl : b.length = 1 ∨ (b.length : Int) = m) (q : Nat) : ∀ (i : Nat), i + q = m.toNat → Ev (fun k => spec_Copy.l1 k (tot b i : Int) (i : Int) a b (m :: t) d) (if tot b m.toNat ≤ 300 ∧ szOf ((tot b m.toNat : Int) :: t) ≥ 0 then ((tot b m.toNat : Int) :: t, flat (cps (row t d (prod t).toNat) b m.toNat), 0) else ([], [], 6)) := by
  obtain ⟨f1, f2, f3, f4, f5, f6⟩ := rows_facts h
  have e0 : rd (m :: t) 0 = m := rfl
  have hcn : ∀ i, 0 < b.length → cn b i ≤ 1000000000000 := fun i h0 => by
    have hc := cn_eq hb i h0
    have hlt : i % b.length < b.length := Nat.mod_lt _ h0
    rw [rdn b _ hlt] at hc
    have := okN_t (hN _ (List.getElem_mem hlt))
    omega
  have htot : ∀ i, i ≤ m.toNat → tot b i ≤ i * 1000000000000 := by
    intro i
    induction i with
    | zero => intro _; exact Nat.le_refl _
    | succ i ihh =>
      intro hi
      have h1 := ihh (by omega)
      have h2 := hcn i (by omega)
      rw [tot, Nat.succ_mul]; omega
  induction q with
  | zero =>
    intro i hi
    have e : i = m.toNat := by omega
    subst e
    refine Ev.step (fun k => by rw [spec_Copy.l1]) (evPos (by simp only [List.length_cons]; omega) ?_)
    rw [e0]
    refine evNeg (by omega) (evBind0 (spec_l1Min_301 _) ?_)
    refine evLet (evPos (by simp only [List.length_cons]; omega) (evPos (by simp only [List.length_cons, List.length_nil, List.drop_succ_cons, List.drop_zero]; omega) (evLet ?_)))
    rw [List.drop_succ_cons, List.drop_zero, List.singleton_append]
    refine Ev.bind (spec_ShapeOk_ev _) ?_
    by_cases hT : tot b m.toNat ≤ 300
    · have em : mn (tot b m.toNat : Int) 301 = (tot b m.toNat : Int) := by unfold mn; split <;> omega
      rw [em]
      by_cases hs : szOf ((tot b m.toNat : Int) :: t) ≥ 0
      · refine evEq (evPos (decide_eq_true hs) (Ev.bind (spec_l3Rows_ev m t d h) ?_)) (if_pos (And.intro hT hs)).symm
        exact spec_Copy_l2 a b m t d h hb hl hT _ m.toNat 0 (by omega)
      · exact evEq (evNeg (by simpa using hs) (Ev.now _)) (if_neg (fun hh : _ ∧ _ => hs hh.2)).symm
    · have em : mn (tot b m.toNat : Int) 301 = 301 := by unfold mn; split <;> omega
      rw [em]
      have hs : ¬ szOf ((301 : Int) :: t) ≥ 0 := fun hh => by
        have := (inR_cons.1 (szOf_nonneg hh).2.1).1
        omega
      exact evEq (evNeg (by simpa using hs) (Ev.now _)) (if_neg (fun hh : _ ∧ _ => hT hh.1)).symm
  | succ q ih =>
    intro i hi
    have hb0 : 0 < b.length := by omega
    have hc := cn_eq hb i hb0
    have e1 : Int.tmod (i : Int) (b.length : Int) = ((i % b.length : Nat) : Int) := by rw [Int.tmod_eq_emod_of_nonneg (by omega)]; rfl
    have hlt : i % b.length < b.length := Nat.mod_lt _ hb0
    have h1 := htot i (by omega)
    have h2 := hcn i hb0
    have h3 : i * 1000000000000 ≤ 300 * 1000000000000 := Nat.mul_le_mul_right _ (by omega)
    have ih' := ih (i + 1) (by omega)
    rw [tot] at ih'
    refine Ev.step (fun k => by rw [spec_Copy.l1]) (evPos (by simp only [List.length_cons]; omega) ?_)
    rw [e0]
    refine evPos (by omega) (evNeg (by omega) ?_)
    rw [e1, hc, w64s i (by omega), w64 (x := (tot b i : Int) + (cn b i : Int)) (by omega) (by omega), show (tot b i : Int) + (cn b i : Int) = ((tot b i + cn b i : Nat) : Int) by omega]
    exact evPos (by omega) (evPos (by omega) ih')
theorem spec_Copy_l0 (a b c d : List Int) (hb : b.length ≤ 1048576) (v : List Int × List Int × Int) (h : ¬ b.any p_Copy1 = true → Ev (fun k => spec_Copy.l1 k 0 0 a b c d) v) (q : Nat) : ∀ (i : Nat), i + q = b.length → ¬ (b.take i).any p_Copy1 = true → Ev (fun k => spec_Copy.l0 k 0 (i : Int) a b c d) (if b.any p_Copy1 = true then ([], [], 2) else v) := by
  induction q with
  | zero =>
    intro i hi ht
    rw [List.take_of_length_le (by omega)] at ht
    refine Ev.step (fun k => by rw [spec_Copy.l0]) ?_
    exact evEq (evNeg (by omega) (h ht)) (if_neg ht).symm
  | succ q ih =>
    intro i hi ht
    have hlt : i < b.length := by omega
    refine Ev.step (fun k => by rw [spec_Copy.l0]) (evPos (by omega) (evPos (by omega) ?_))
    rw [rdn b i hlt, w64s i (by omega)]
    by_cases hx : b[i] < 0
    · exact evEq (evPos hx (Ev.now _)) (if_pos (List.any_eq_true.2 ⟨_, List.getElem_mem hlt, by unfold p_Copy1; simpa using hx⟩)).symm
    · refine evNeg hx (ih (i + 1) (by omega) ?_)
      rw [List.take_add_one, List.getElem?_eq_getElem hlt, List.any_append]
      simp only [Option.toList_some, List.any_cons, List.any_nil, Bool.or_false, Bool.or_eq_true, not_or]
      exact ⟨ht, by unfold p_Copy1; simpa using hx⟩
theorem spec_Copy_ev (a b c d : List Int) (hb : b.length ≤ 1048576) (hd : d.length ≤ 1048576) : Ev (fun k => spec_Copy.f k a b c d) (copyA a b c d) := by
  unfold spec_Copy.f copyA
  refine Ev.bind (spec_ArrayOk_ev a b hb) ?_
  have hbad : Ev (fun k => spec_Copy.j0 k true a b c d) ([], [], 1) := Ev.step (fun k => by rw [spec_Copy.j0]) (evPos rfl (Ev.now _))
  by_cases h1 : arrayOk a b = true
  · refine evPos h1 (Ev.bind (spec_ArrayOk_ev c d hd) ?_)
    by_cases h2 : arrayOk c d = true
    · have hN := (arrayOk_t h1).2.1
      rw [h2]
      refine evEq ?_ (if_pos (And.intro h1 rfl)).symm
      have hrank : Ev (fun k => spec_Copy.j1 k true a b c d) ([], [], 4) := Ev.step (fun k => by rw [spec_Copy.j1]) (evPos rfl (Ev.now _))
      refine Ev.step (fun k => by rw [spec_Copy.j0]) (evNeg (by simp) ?_)
      by_cases h3 : a.length > 1
      · exact evEq (evPos (by omega) hrank) (if_pos h3).symm
      refine evEq (evNeg (by omega) ?_) (if_neg h3).symm
      cases c with
      | nil => exact hrank
      | cons m t =>
        obtain ⟨f1, f2, f3, f4, f5, f6⟩ := rows_facts h2
        dsimp only
        rw [show (((m :: t).length : Int) == 0) = false by rw [beq_eq_false_iff_ne]; simp only [List.length_cons]; omega]
        unfold copyS
        have e0 : rd (m :: t) 0 = m := rfl
        have hj2 : (b.length = 1 ∨ (b.length : Int) = m) → Ev (fun k => spec_Copy.j2 k a b (m :: t) d) (if b.any p_Copy1 = true then ([], [], 2) else if tot b m.toNat ≤ 300 ∧ szOf ((tot b m.toNat : Int) :: t) ≥ 0 then ((tot b m.toNat : Int) :: t, flat (cps (row t d (prod t).toNat) b m.toNat), 0) else ([], [], 6)) := by
          intro hl
          refine Ev.step (fun k => by rw [spec_Copy.j2]) ?_
          exact spec_Copy_l0 a b (m :: t) d hb _ (fun h5 => spec_Copy_l1 a b m t d h2 h5 hN hl m.toNat 0 (by omega)) b.length 0 (by omega) (by simp)
        refine Ev.step (fun k => by rw [spec_Copy.j1]) (evNeg (by simp) ?_)
        by_cases h4 : b.length = 1
        · exact evEq (evPos (by omega) (hj2 (.inl h4))) (if_neg (fun hh : b.length ≠ 1 ∧ (b.length : Int) ≠ m => hh.1 h4)).symm
        · refine evNeg (by omega) (evPos (by simp only [List.length_cons]; omega) ?_)
          rw [e0]
          by_cases h5 : (b.length : Int) = m
          · exact evEq (evPos h5 (hj2 (.inr h5))) (if_neg (fun hh : b.length ≠ 1 ∧ (b.length : Int) ≠ m => hh.2 h5)).symm
          · exact evEq (evNeg h5 (Ev.now _)) (if_pos (And.intro h4 h5)).symm
    · rw [Bool.eq_false_iff.2 h2]
      exact evEq hbad (if_neg (fun hh : _ ∧ _ => absurd hh.2 (by simp))).symm
  · exact evEq (evNeg h1 hbad) (if_neg (fun hh : _ ∧ _ => h1 hh.1)).symm

theorem laws_szIntS_eq (a : List Int) (n : Int) (ha : a.length ≤ 9223372036854775807) (h0 : 0 ≤ n) (h1 : n ≤ 1048576) : ∃ v, laws_szIntS.f a n = some v ∧ (v < 0 ∨ (0 ≤ v ∧ v ≤ n ∧ a.length ≤ 1048576)) := by
  unfold laws_szIntS.f
  rw [w64 (by omega) (by omega)]
  by_cases h : n - (a.length : Int) < 0
  · rw [if_pos h]; exact ⟨_, rfl, .inl (by omega)⟩
  · rw [if_neg h]; exact ⟨_, rfl, .inr (by omega)⟩
theorem laws_szArray_eq (a b : List Int) (n : Int) (ha : a.length ≤ 9223372036854775807) (hb : b.length ≤ 9223372036854775807) (h0 : 0 ≤ n) (h1 : n ≤ 1048576) : ∃ v, laws_szArray.f a b n = some v ∧ (v < 0 ∨ (0 ≤ v ∧ v ≤ 1048576 ∧ a.length ≤ 1048576 ∧ b.length ≤ 1048576)) := by
  unfold laws_szArray.f
  obtain ⟨v, hv, h⟩ := laws_szIntS_eq a n ha h0 h1
  rw [hv, Option.bind_some]
  rcases h with h | ⟨h2, h3, h4⟩
  · rw [if_pos h]; exact ⟨_, rfl, .inl (by omega)⟩
  · rw [if_neg (by omega)]
    obtain ⟨u, hu, h5⟩ := laws_szIntS_eq b v hb h2 (by omega)
    rw [hu, Option.bind_some]
    rcases h5 with h5 | ⟨h6, h7, h8⟩
    · rw [if_pos h5]; exact ⟨_, rfl, .inl (by omega)⟩
    · rw [if_neg (by omega)]; exact ⟨_, rfl, .inr (by omega)⟩

theorem laws_toIntS_l0 (l : List Int) (hl : l.length ≤ 35184372088832) (d : Nat) : ∀ (i : Nat) (m : List Int), i + d = l.length → m.length = l.length → m.take i = l.take i → Ev (fun k => laws_toIntS.l0 k l m (i : Int)) l := by
  induction d with
  | zero =>
    intro i m hi hm ht
    have e : m = l := by rw [List.take_of_length_le (by omega), List.take_of_length_le (by omega)] at ht; exact ht
    refine Ev.step (f := fun _ => some l) (fun k => ?_) (Ev.now _)
    simp only [laws_toIntS.l0]; rw [if_neg (by omega), e]
  | succ d ih =>
    intro i m hi hm ht
    have hlt : i < l.length := by omega
    refine Ev.step (f := fun k => laws_toIntS.l0 k l (m.set i l[i]) ((i + 1 : Nat) : Int)) (fun k => ?_) (ih (i + 1) (m.set i l[i]) (by omega) (by rw [List.length_set, hm]) ?_)
    · simp only [laws_toIntS.l0]
      rw [if_pos (by omega), if_pos (by omega), if_pos (by omega), rdn l i hlt, w64s i (by omega), Int.toNat_natCast]
    · rw [List.take_succ_eq_append_getElem (l := m.set i l[i]) (i := i) (by rw [List.length_set]; omega), List.take_succ_eq_append_getElem hlt, List.getElem_set_self, List.take_set_of_le (Nat.le_refl i), ht]
theorem laws_toIntS_ev (l : List Int) (hl : l.length ≤ 35184372088832) : Ev (fun k => laws_toIntS.f k l) l := by
  unfold laws_toIntS.f
  refine evPos (by omega) (evPos (by omega) ?_)
  exact laws_toIntS_l0 l hl l.length 0 _ (by omega) (by simp) (by simp)

theorem laws_toArray_ev (a b : List Int) (ha : a.length ≤ 1048576) (hb : b.length ≤ 1048576) : Ev (fun k => laws_toArray.f k a b) (a, b) := by
  unfold laws_toArray.f
  exact Ev.bind (laws_toIntS_ev a (by omega)) (Ev.bind (laws_toIntS_ev b (by omega)) (Ev.now _))

theorem laws_eqIntS_l0 (l m : List Int) (hl : l.length ≤ 35184372088832) (hm : l.length = m.length) (d : Nat) : ∀ (i : Nat), i + d = l.length → Ev (fun k => laws_eqIntS.l0 k l m (i : Int)) (decide (l.drop i = m.drop i)) := by
  induction d with
  | zero =>
    intro i hi
    refine Ev.step (f := fun _ => some (decide (l.drop i = m.drop i))) (fun k => ?_) (Ev.now _)
    simp only [laws_eqIntS.l0]
    rw [if_neg (by omega), List.drop_of_length_le (by omega), List.drop_of_length_le (by omega)]; simp
  | succ d ih =>
    intro i hi
    have hlt : i < l.length := by omega
    have hlt' : i < m.length := by omega
    have e1 := List.drop_eq_getElem_cons hlt
    have e2 := List.drop_eq_getElem_cons hlt'
    by_cases hx : l[i] = m[i]
    · refine Ev.step (f := fun k => laws_eqIntS.l0 k l m ((i + 1 : Nat) : Int)) (fun k => ?_) (evEq (ih (i + 1) (by omega)) ?_)
      · simp only [laws_eqIntS.l0]
        rw [if_pos (by omega), if_pos (by omega), if_pos (by omega), rdn l i hlt, rdn m i hlt', if_pos hx, w64s i (by omega)]
      · rw [e1, e2, hx]; simp only [List.cons.injEq, true_and]
    · refine Ev.step (f := fun _ => some false) (fun k => ?_) (evSome ?_)
      · simp only [laws_eqIntS.l0]
        rw [if_pos (by omega), if_pos (by omega), if_pos (by omega), rdn l i hlt, rdn m i hlt', if_neg hx]
      · rw [e1, e2]; symm; rw [decide_eq_false_iff_not]; intro h; exact hx (List.cons.inj h).1
theorem laws_eqIntS_ev (l m : List Int) (hl : l.length ≤ 35184372088832) : Ev (fun k => laws_eqIntS.f k l m) (decide (l = m)) := by
  unfold laws_eqIntS.f
  by_cases h : l.length = m.length
  · refine evPos (by omega) ?_
    exact laws_eqIntS_l0 l m hl h l.length 0 (by omega)
  · refine evNeg (by omega) (evSome ?_)
    symm; rw [decide_eq_false_iff_not]; intro e; exact h (by rw [e])
theorem laws_eqIntS_rfl (l : List Int) (hl : l.length ≤ 35184372088832) : Ev (fun k => laws_eqIntS.f k l l) true := evEq (laws_eqIntS_ev l l hl) (by simp)

theorem laws_eqArray_ev (a b c d : List Int) (ha : a.length ≤ 35184372088832) (hb : b.length ≤ 35184372088832) : Ev (fun k => laws_eqArray.f k a b c d) (decide (a = c ∧ b = d)) := by
  unfold laws_eqArray.f
  refine Ev.bind (laws_eqIntS_ev a c ha) ?_
  by_cases h : a = c
  · refine evPos (by simpa using h) (Ev.bind (laws_eqIntS_ev b d hb) ?_)
    by_cases h2 : b = d
    · exact evPos (by simpa using h2) (evSome (by simp [h, h2]))
    · exact evNeg (by simpa using h2) (evSome (by simp [h2]))
  · exact evNeg (by simpa using h) (evSome (by simp [h]))
theorem laws_eqArray_rfl (a b : List Int) (ha : a.length ≤ 35184372088832) (hb : b.length ≤ 35184372088832) : Ev (fun k => laws_eqArray.f k a b a b) true := evEq (laws_eqArray_ev a b a b ha hb) (by simp)

/-- The numbers that a mark leaves: from a on. -/
def asc (a : Int) : Nat → List Int
  | 0 => []
  | n + 1 => a :: asc (a + 1) n
theorem asc_length : ∀ (n : Nat) (a : Int), (asc a n).length = n
  | 0, _ => rfl
  | n + 1, a => by simp [asc, asc_length n]
theorem asc_get : ∀ (n : Nat) (a : Int) (i : Nat) (h : i < (asc a n).length), (asc a n)[i] = a + i
  | 0, _, i, h => by simp [asc] at h
  | n + 1, a, 0, _ => by simp [asc]
  | n + 1, a, i + 1, h => by
    have h2 : i < (asc (a + 1) n).length := by rw [asc_length] at h ⊢; omega
    have := asc_get n (a + 1) i h2
    simp only [asc, List.getElem_cons_succ, this]; omega
theorem asc_snoc : ∀ (n : Nat) (a : Int), asc a (n + 1) = asc a n ++ [a + n]
  | 0, a => by simp [asc]
  | n + 1, a => by
    rw [asc, asc_snoc n (a + 1)]; simp only [asc, List.cons_append]; congr 3; omega

theorem laws_markIntS_l0 (n : Nat) (a : Int) (hn : n ≤ 35184372088832) (h0 : 0 ≤ a) (h1 : a ≤ 1000000000000000) (d : Nat) : ∀ (i : Nat) (m : List Int), i + d = n → m.length = n → m.take i = asc a i → Ev (fun k => laws_markIntS.l0 k m (a + i) (i : Int)) (a + n, asc a n) := by
  induction d with
  | zero =>
    intro i m hi hm ht
    have hin : i = n := by omega
    have e : m = asc a n := by rw [List.take_of_length_le (by omega)] at ht; rw [ht, hin]
    refine Ev.step (f := fun _ => some (a + (n : Int), asc a n)) (fun k => ?_) (Ev.now _)
    simp only [laws_markIntS.l0]; rw [if_neg (by omega), e, hin]
  | succ d ih =>
    intro i m hi hm ht
    refine Ev.step (f := fun k => laws_markIntS.l0 k (m.set i (a + i)) (a + ((i + 1 : Nat) : Int)) ((i + 1 : Nat) : Int)) (fun k => ?_) (ih (i + 1) (m.set i (a + i)) (by omega) (by rw [List.length_set, hm]) ?_)
    · simp only [laws_markIntS.l0]
      have e : wrap64 (a + (i : Int) + 1) = a + ((i + 1 : Nat) : Int) := by rw [w64] <;> omega
      rw [if_pos (by omega), if_pos (by omega), w64s i (by omega), Int.toNat_natCast, e]
    · rw [List.take_succ_eq_append_getElem (l := m.set i (a + i)) (i := i) (by rw [List.length_set]; omega), List.getElem_set_self, List.take_set_of_le (Nat.le_refl i), ht, asc_snoc]
theorem laws_markIntS_ev (l : List Int) (a : Int) (hl : l.length ≤ 35184372088832) (h0 : 0 ≤ a) (h1 : a ≤ 1000000000000000) : Ev (fun k => laws_markIntS.f k l a) (a + l.length, asc a l.length) := by
  unfold laws_markIntS.f
  have := laws_markIntS_l0 l.length a hl h0 h1 l.length 0 l (by omega) rfl (by simp [asc])
  simpa using this

theorem laws_markArray_ev (a b : List Int) (n : Int) (ha : a.length ≤ 35184372088832) (hb : b.length ≤ 35184372088832) (h0 : 0 ≤ n) (h1 : n ≤ 500000000000000) : Ev (fun k => laws_markArray.f k a b n) (n + a.length + b.length, asc n a.length, asc (n + a.length) b.length) := by
  unfold laws_markArray.f
  refine Ev.bind (laws_markIntS_ev a n ha h0 (by omega)) (Ev.bind (laws_markIntS_ev b _ hb (by omega) (by omega)) (Ev.now _))

theorem laws_heldIntS_l0 (n : Nat) (a : Int) (hn : n ≤ 35184372088832) (h0 : 0 ≤ a) (h1 : a ≤ 1000000000000000) (d : Nat) : ∀ (i : Nat), i + d = n → Ev (fun k => laws_heldIntS.l0 k (asc a n) (a + i) (i : Int)) (a + n) := by
  induction d with
  | zero =>
    intro i hi
    have hin : i = n := by omega
    refine Ev.step (f := fun _ => some (a + (n : Int))) (fun k => ?_) (Ev.now _)
    simp only [laws_heldIntS.l0]; rw [if_neg (by rw [asc_length]; omega), hin]
  | succ d ih =>
    intro i hi
    refine Ev.step (f := fun k => laws_heldIntS.l0 k (asc a n) (a + ((i + 1 : Nat) : Int)) ((i + 1 : Nat) : Int)) (fun k => ?_) (ih (i + 1) (by omega))
    simp only [laws_heldIntS.l0]
    have e : wrap64 (a + (i : Int) + 1) = a + ((i + 1 : Nat) : Int) := by rw [w64] <;> omega
    have hlt : i < (asc a n).length := by rw [asc_length]; omega
    rw [if_pos (by rw [asc_length]; omega), if_pos (by omega), rdn _ i hlt, asc_get n a i hlt, if_pos rfl, w64s i (by omega), e]
theorem laws_heldIntS_ev (n : Nat) (a : Int) (hl : n ≤ 35184372088832) (h0 : 0 ≤ a) (h1 : a ≤ 1000000000000000) : Ev (fun k => laws_heldIntS.f k (asc a n) a) (a + n) := by
  unfold laws_heldIntS.f
  have := laws_heldIntS_l0 n a hl h0 h1 n 0 (by omega)
  simpa using this

theorem laws_heldArray_ev (a b : Nat) (n : Int) (ha : a ≤ 35184372088832) (hb : b ≤ 35184372088832) (h0 : 0 ≤ n) (h1 : n ≤ 500000000000000) : Ev (fun k => laws_heldArray.f k (asc n a) (asc (n + a) b) n) (n + a + b) := by
  unfold laws_heldArray.f
  refine Ev.bind (laws_heldIntS_ev a n ha h0 (by omega)) (evNeg (by omega) (Ev.bind (laws_heldIntS_ev b _ hb (by omega) (by omega)) (evNeg (by omega) (Ev.now _))))

theorem FnExactCopy : ∀ (l0_0 : List Int) (l0_1 : List Int) (l1_0 : List Int) (l1_1 : List Int), l0_0.length ≤ maxLen → (∀ x ∈ l0_0, (Lit.int .i64 x).wf = true) → l0_1.length ≤ maxLen → (∀ x ∈ l0_1, (Lit.int .i64 x).wf = true) → l1_0.length ≤ maxLen → (∀ x ∈ l1_0, (Lit.int .i64 x).wf = true) → l1_1.length ≤ maxLen → (∀ x ∈ l1_1, (Lit.int .i64 x).wf = true) → ∃ k, laws_FnExactCopy.f k l0_0 l0_1 l1_0 l1_1 = some true := by
  intro l0_0 l0_1 l1_0 l1_1 hm_l0_0 hw_l0_0 hm_l0_1 hw_l0_1 hm_l1_0 hw_l1_0 hm_l1_1 hw_l1_1
  have hn_l0_0 : l0_0.length ≤ 9223372036854775807 := hm_l0_0
  have hn_l0_1 : l0_1.length ≤ 9223372036854775807 := hm_l0_1
  have hn_l1_0 : l1_0.length ≤ 9223372036854775807 := hm_l1_0
  have hn_l1_1 : l1_1.length ≤ 9223372036854775807 := hm_l1_1
  suffices hE_ : Ev (fun k => laws_FnExactCopy.f k l0_0 l0_1 l1_0 l1_1) true from Exists.elim hE_ (fun K_ h_ => ⟨K_, h_ K_ (Nat.le_refl _)⟩)
  unfold laws_FnExactCopy.f
  obtain ⟨v0, e0, h0⟩ := laws_szArray_eq l0_0 l0_1 1048576 hn_l0_0 hn_l0_1 (by omega) (by omega)
  refine evBind0 e0 ?_
  rcases h0 with h0 | ⟨ha0, hb0, hc0, hd0⟩
  · exact evPos h0 (Ev.now _)
  refine evNeg (by omega) ?_
  obtain ⟨v1, e1, h1⟩ := laws_szArray_eq l1_0 l1_1 v0 hn_l1_0 hn_l1_1 (by omega) (by omega)
  refine evBind0 e1 ?_
  rcases h1 with h1 | ⟨ha1, hb1, hc1, hd1⟩
  · exact evPos h1 (Ev.now _)
  refine evNeg (by omega) ?_
  have hv := copyA_len l0_0 l0_1 l1_0 l1_1 (by omega)
  repeat' (first
    | (dsimp only)
    | (with_reducible exact Ev.now _)
    | (with_reducible refine evPos rfl ?_)
    | (refine evNeg ?hc ?_; (case hc => first | omega | (simp; done)))
    | (refine evPos ?hc ?_; (case hc => omega))
    | (refine Ev.bind (laws_toArray_ev _ _ (by omega) (by omega)) ?_)
    | (refine Ev.bind (laws_toIntS_ev _ (by omega)) ?_)
    | (refine Ev.bind (laws_eqArray_rfl _ _ (by omega) (by omega)) ?_)
    | (refine Ev.bind (laws_eqIntS_rfl _ (by omega)) ?_)
    | (refine Ev.bind (laws_markArray_ev _ _ _ (by omega) (by omega) (by omega) (by omega)) ?_)
    | (refine Ev.bind (laws_heldArray_ev _ _ _ (by omega) (by omega) (by omega) (by omega)) ?_)
    | (refine Ev.bind (laws_markIntS_ev _ _ (by omega) (by omega) (by omega)) ?_)
    | (refine Ev.bind (laws_heldIntS_ev _ _ (by omega) (by omega) (by omega)) ?_)
    | (refine Ev.bind (spec_Copy_ev _ _ _ _ (by omega) (by omega)) ?_)
    | (refine Ev.bind (impl_Copy_ev _ _ _ _ (by omega) (by omega)) ?_)
    | (refine Ev.step (fun k => by simp only [laws_FnExactCopy.j0]; rfl) ?_)
    | (refine Ev.step (fun k => by simp only [laws_FnExactCopy.j1]; rfl) ?_)
    | (refine Ev.step (fun k => by simp only [laws_FnExactCopy.j2]; rfl) ?_)
  )


end Go.Proofs.Ytcnbajdnlkcjjaa.Pure
