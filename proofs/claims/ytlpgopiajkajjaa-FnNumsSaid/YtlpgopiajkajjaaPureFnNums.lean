/- The law FnNums answers true for each code: what a sign does to drawn numbers is right or has a code, and a neutral one on the left of a sum, product, least or greatest changes nothing. Conditions: those of the row's own reading alone. -/
import Derived.Test.YtlpgopiajkajjaaPFnNumsx
namespace Go.Proofs.Ytlpgopiajkajjaa.Pure
open Go.RowKit Go.Proofs.Ytlpgopiajkajjaa.PFnNums Go.Proofs.YtlpgopiajkajjaaW.PrintWords Go.Proofs.YtlpgopiajkajjaaW.PrintLast Go.Proofs.YtlpgopiajkajjaaW.PrintMore
set_option linter.unusedVariables false
set_option linter.unusedSimpArgs false

section
variable {α β : Type}
theorem evPos {c : Prop} [Decidable c] {g h : Nat → Option α} {r : α} (hc : c) (e : Ev g r) : Ev (fun k => if c then g k else h k) r := by
  simpa only [if_pos hc] using e
theorem evNeg {c : Prop} [Decidable c] {g h : Nat → Option α} {r : α} (hc : ¬ c) (e : Ev h r) : Ev (fun k => if c then g k else h k) r := by
  simpa only [if_neg hc] using e
theorem evBind0 {o : Option α} {f : Nat → α → Option β} {a : α} {r : β} (h : o = some a) (k : Ev (fun n => f n a) r) : Ev (fun n => o.bind (f n)) r := by
  subst h; simpa only [Option.bind_some] using k
theorem evLet {a : α} {f : Nat → α → Option β} {r : β} (k : Ev (fun n => f n a) r) : Ev (fun n => (some a).bind (f n)) r := by
  simpa only [Option.bind_some] using k
theorem evEq {g : Nat → Option α} {r r' : α} (h : Ev g r) (e : r = r') : Ev g r' := e ▸ h
theorem evSomeEq {o : Option α} {r : α} (e : o = some r) : Ev (fun _ => o) r := e ▸ Ev.now r
theorem evSome {a r : α} (e : a = r) : Ev (fun _ => some a) r := e ▸ Ev.now a
end
theorem w64 {x : Int} (h : -9223372036854775808 ≤ x) (h' : x ≤ 9223372036854775807) : wrap64 x = x := by unfold wrap64; omega
theorem w64s (i : Nat) (h : i < 4611686018427387904) : wrap64 ((i : Int) + 1) = ((i + 1 : Nat) : Int) := by rw [w64] <;> omega
theorem rdn (l : List Int) (i : Nat) (h : i < l.length) : rd l (i : Int) = l[i] := by
  simp only [rd, Int.toNat_natCast, List.getD_eq_getElem?_getD, List.getElem?_eq_getElem h, Option.getD_some]
theorem wfI {x : Int} (h : (Lit.int .i64 x).wf = true) : -9223372036854775808 ≤ x ∧ x ≤ 9223372036854775807 := by
  have h2 : (decide (IntKind.i64.min ≤ x) && decide (x ≤ IntKind.i64.max)) = true := h
  rw [Bool.and_eq_true, decide_eq_true_iff, decide_eq_true_iff] at h2
  have e1 : IntKind.i64.min = -9223372036854775808 := by decide
  have e2 : IntKind.i64.max = 9223372036854775807 := by decide
  rw [e1, e2] at h2
  exact h2

/-- A right number. -/
def okN (x : Int) : Bool := decide (-1000000000000 ≤ x ∧ x ≤ 1000000000000)
theorem okN_t {x : Int} (h : okN x = true) : -1000000000000 ≤ x ∧ x ≤ 1000000000000 := of_decide_eq_true h
theorem okN_f {x : Int} (h : okN x = false) : ¬ (-1000000000000 ≤ x ∧ x ≤ 1000000000000) := of_decide_eq_false h

def sign1 (s : Int) : Bool := decide (s = 43 ∨ s = 45 ∨ s = 42 ∨ s = 124 ∨ s = 126)
def sign2 (s : Int) : Bool := decide (s = 43 ∨ s = 45 ∨ s = 42 ∨ s = 37 ∨ s = 124 ∨ s = 38 ∨ s = 94 ∨ s = 61 ∨ s = 60 ∨ s = 62)
/-- A number that is right, or the code of a limit. -/
def lim (x : Int) : Int × Int := if okN x = true then (x, 0) else (0, 6)
def tru (b : Bool) : Int := if b = true then 1 else 0
def one (s x : Int) : Int × Int :=
  if sign1 s = true ∧ okN x = true then
    (if s = 45 then (-x, 0) else if s = 42 then (tru (decide (x > 0)) - tru (decide (x < 0)), 0) else if s = 124 then (if x < 0 then -x else x, 0) else if s = 126 then (if 0 ≤ x ∧ x ≤ 1 then (1 - x, 0) else (0, 2)) else (x, 0))
  else (0, 1)
def two (s a b : Int) : Int × Int :=
  if sign2 s = true ∧ okN a = true ∧ okN b = true then
    (if s = 43 then lim (a + b) else if s = 45 then lim (a - b) else if s = 42 then lim (a * b)
     else if s = 37 then (if b = 0 then (0, 2) else lim (Int.fdiv a b)) else if s = 124 then lim (if a = 0 then b else Int.fmod b a)
     else if s = 38 then lim (if b < a then b else a) else if s = 94 then lim (if a < b then b else a)
     else if s = 61 then lim (tru (a == b)) else if s = 60 then lim (tru (decide (a < b))) else lim (tru (decide (a > b))))
  else (0, 1)
theorem fdiv_le {a b : Int} (h : -1000000000000 ≤ a ∧ a ≤ 1000000000000) : -1000000000000 ≤ Int.fdiv a b ∧ Int.fdiv a b ≤ 1000000000000 := by
  have := Int.natAbs_fdiv_le_natAbs a b; omega
theorem tdiv_le {a b : Int} (h : -1000000000000 ≤ a ∧ a ≤ 1000000000000) : -1000000000000 ≤ Int.tdiv a b ∧ Int.tdiv a b ≤ 1000000000000 := by
  have := Int.natAbs_tdiv_le_natAbs a b; omega
theorem fmod_le {a b : Int} (h : -1000000000000 ≤ a ∧ a ≤ 1000000000000) (hb : a ≠ 0) : -1000000000000 ≤ Int.fmod b a ∧ Int.fmod b a ≤ 1000000000000 := by
  rcases Int.lt_or_gt_of_ne hb with h1 | h1
  · have h2 := Int.fmod_nonneg_of_pos (-b) (b := -a) (by omega)
    have h3 := Int.fmod_lt_of_pos (-b) (b := -a) (by omega)
    rw [Int.neg_fmod_neg] at h2 h3; omega
  · have h2 := Int.fmod_nonneg_of_pos b h1
    have h3 := Int.fmod_lt_of_pos b h1
    omega
/-- What floor tells: Go's quotient, one less where it doesn't divide and the signs differ. -/
theorem floor_is (a b : Int) (hb : b ≠ 0) (h : -1000000000000 ≤ a ∧ a ≤ 1000000000000) :
    (if b = 0 then none else (if (Int.tmod a b) = 0 then (some (wrap64 (Int.tdiv a b))) else (if ((decide (a < 0)) != (decide (b < 0))) = true then (some (wrap64 ((wrap64 (Int.tdiv a b)) - 1))) else (some (wrap64 (Int.tdiv a b)))))) = some (Int.fdiv a b) := by
  have ht := tdiv_le (b := b) h
  rw [if_neg hb, w64 (x := Int.tdiv a b) (by omega) (by omega), w64 (x := Int.tdiv a b - 1) (by omega) (by omega), Int.fdiv_eq_tdiv]
  by_cases h0 : Int.tmod a b = 0
  · rw [if_pos h0, if_pos (Int.dvd_iff_tmod_eq_zero.2 h0)]; simp
  · rw [if_neg h0, if_neg (fun hh => h0 (Int.dvd_iff_tmod_eq_zero.1 hh))]
    by_cases ha : a < 0
    · rw [if_neg (show ¬ 0 ≤ a by omega)]
      by_cases hb' : b < 0
      · rw [if_neg (by simp [ha, hb']), if_neg (show ¬ 0 ≤ b by omega), Int.sign_eq_neg_one_of_neg hb']; simp
      · rw [if_pos (by simp [ha, hb']), if_pos (show 0 ≤ b by omega), Int.sign_eq_one_of_pos (by omega)]
    · rw [if_pos (show 0 ≤ a by omega)]
      by_cases hb' : b < 0
      · rw [if_pos (by simp [ha, hb']), if_neg (show ¬ 0 ≤ b by omega)]
      · rw [if_neg (by simp [ha, hb']), if_pos (show 0 ≤ b by omega)]; simp
/-- A product beyond the limit, by a quotient. -/
theorem prod_lim {x y : Int} (hx : 0 < x) (hy : 0 ≤ y) : y > 1000000000000 / x ↔ x * y > 1000000000000 := by
  have h1 := Int.lt_ediv_add_one_mul_self 1000000000000 hx
  constructor
  · intro h
    have h2 : (1000000000000 / x + 1) * x ≤ y * x := Int.mul_le_mul_of_nonneg_right (by omega) (by omega)
    rw [Int.mul_comm y x] at h2; omega
  · intro h
    have h2 := Int.ediv_mul_le 1000000000000 (Int.ne_of_gt hx)
    by_cases h3 : y ≤ 1000000000000 / x
    · have h4 : y * x ≤ 1000000000000 / x * x := Int.mul_le_mul_of_nonneg_right h3 (by omega)
      rw [Int.mul_comm y x] at h4; omega
    · omega
/-- The size of a number. -/
def ab (x : Int) : Int := if x < 0 then -x else x
theorem ab_nonneg (x : Int) : 0 ≤ ab x := by unfold ab; split <;> omega
theorem ab_mul (x y : Int) : ab (x * y) = ab x * ab y := by
  have h : ∀ z : Int, ab z = (z.natAbs : Int) := fun z => by unfold ab; split <;> omega
  rw [h, h, h, Int.natAbs_mul, Int.natCast_mul]
theorem okN_ab (x : Int) : okN x = decide (ab x ≤ 1000000000000) := by
  unfold okN ab; rw [Bool.eq_iff_iff, decide_eq_true_iff, decide_eq_true_iff]; split <;> omega
theorem okN_prod {x y : Int} (hx : x ≠ 0) : okN (x * y) = !decide (ab y > 1000000000000 / ab x) := by
  have h0 : 0 < ab x := by unfold ab; split <;> omega
  have h1 := prod_lim h0 (ab_nonneg y)
  rw [okN_ab, ab_mul, Bool.eq_iff_iff, decide_eq_true_iff, Bool.not_eq_true', decide_eq_false_iff_not, h1]; omega

theorem hs_step (b : ByteArray) (s : Int) (i : Nat) (v : Int) (r : Bool) (hi : i < b.size) (hn : i < 100) (hv : bt b i = v) (e : Ev (fun k => impl_hasSign.l0 k b s ((i + 1 : Nat) : Int)) r) : Ev (fun k => impl_hasSign.l0 k b s (i : Int)) (decide (s = v) || r) := by
  have hr := bt_range b i
  by_cases h : v = s
  · refine Ev.step (f := fun _ => some true) (fun k => ?_) (evSome (by simp [h]))
    simp only [impl_hasSign.l0]
    rw [if_pos (by omega), if_pos (by omega), if_pos (by rw [w64 (by omega) (by omega), hv, h])]
  · refine Ev.step (f := fun k => impl_hasSign.l0 k b s ((i + 1 : Nat) : Int)) (fun k => ?_) (evEq e (by rw [decide_eq_false (fun hh => h hh.symm), Bool.false_or]))
    simp only [impl_hasSign.l0]
    rw [if_pos (by omega), if_pos (by omega), if_neg (by rw [w64 (by omega) (by omega), hv]; exact h), w64s i (by omega)]
theorem hs_end (b : ByteArray) (s : Int) (i : Nat) (hi : b.size = i) : Ev (fun k => impl_hasSign.l0 k b s (i : Int)) false := by
  refine Ev.step (f := fun _ => some false) (fun k => ?_) (Ev.now _)
  simp only [impl_hasSign.l0]
  rw [if_neg (by omega)]

theorem impl_twoSign_ev (s : Int) : Ev (fun k => impl_twoSign.f k s) (sign2 s) := by
  unfold impl_twoSign.f impl_hasSign.f
  refine Ev.bind (a := sign2 s) ?_ (Ev.now _)
  refine evEq (hs_step _ s 0 43 _ (by decide) (by decide) (by decide) (hs_step _ s 1 45 _ (by decide) (by decide) (by decide) (hs_step _ s 2 42 _ (by decide) (by decide) (by decide) (hs_step _ s 3 37 _ (by decide) (by decide) (by decide) (hs_step _ s 4 124 _ (by decide) (by decide) (by decide) (hs_step _ s 5 38 _ (by decide) (by decide) (by decide) (hs_step _ s 6 94 _ (by decide) (by decide) (by decide) (hs_step _ s 7 61 _ (by decide) (by decide) (by decide) (hs_step _ s 8 60 _ (by decide) (by decide) (by decide) (hs_step _ s 9 62 _ (by decide) (by decide) (by decide) (hs_end _ s 10 (by decide)))))))))))) ?_
  unfold sign2; rw [Bool.eq_iff_iff]; simp

theorem impl_within_eq (a b c : Int) : impl_within.f a b c = some (decide (b ≤ a ∧ a ≤ c)) := by
  unfold impl_within.f
  by_cases h : a ≥ b
  · rw [if_pos h]; congr 1; rw [Bool.eq_iff_iff, decide_eq_true_iff, decide_eq_true_iff]; omega
  · rw [if_neg h]; congr 1; symm; rw [decide_eq_false_iff_not]; omega

theorem impl_NumOk_eq (a : Int) : impl_NumOk.f a = some (okN a) := by
  unfold impl_NumOk.f; rw [impl_within_eq]; rfl

theorem impl_truth_eq (b : Bool) : impl_truth.f b = some (tru b) := by cases b <;> rfl

theorem impl_floor_eq (a b : Int) (hb : b ≠ 0) (h : -1000000000000 ≤ a ∧ a ≤ 1000000000000) : impl_floor.f a b = some (Int.fdiv a b) := floor_is a b hb h
theorem impl_product_eq (a b : Int) (ha : -1000000000000 ≤ a ∧ a ≤ 1000000000000) (hb : -1000000000000 ≤ b ∧ b ≤ 1000000000000) : ∃ y, impl_product.f a b = some (y, okN (a * b)) ∧ (okN (a * b) = true → y = a * b) := by
  unfold impl_product.f
  by_cases h0 : a = 0
  · subst h0
    rw [if_pos rfl]
    exact ⟨0, by rw [Int.zero_mul, w64 (by decide) (by decide)]; rfl, fun _ => by rw [Int.zero_mul]⟩
  · have e1 : mx a (wrap64 (-a)) = ab a := by rw [w64 (by omega) (by omega)]; unfold mx ab; split <;> split <;> omega
    have e2 : mx b (wrap64 (-b)) = ab b := by rw [w64 (by omega) (by omega)]; unfold mx ab; split <;> split <;> omega
    have h1 : 0 < ab a := by unfold ab; split <;> omega
    have h2 : 0 ≤ 1000000000000 / ab a := Int.ediv_nonneg (by decide) (by omega)
    have h3 : 1000000000000 / ab a ≤ 1000000000000 := Int.ediv_le_self _ (by decide)
    rw [if_neg h0, e1, e2, if_neg (by omega), Int.tdiv_eq_ediv_of_nonneg (by decide), w64 (x := 1000000000000 / ab a) (by omega) (by omega), okN_prod h0]
    by_cases h4 : ab b > 1000000000000 / ab a
    · rw [if_pos h4]; exact ⟨0, by simp [h4], fun h => by simp [h4] at h⟩
    · rw [if_neg h4]
      have h5 : okN (a * b) = true := by rw [okN_prod h0]; simp [h4]
      have h6 := okN_t h5
      exact ⟨a * b, by rw [w64 (by omega) (by omega)]; simp [h4], fun _ => rfl⟩
theorem impl_lim (x : Int) : (impl_NumOk.f x).bind (fun t => if t = true then some (x, (0 : Int)) else some (0, 6)) = some (lim x) := by
  rw [impl_NumOk_eq]; simp only [Option.bind_some, lim]; split <;> rfl
theorem impl_Two_ev (s a b : Int) : Ev (fun k => impl_Two.f k s a b) (two s a b) := by
  unfold impl_Two.f
  refine Ev.bind (impl_twoSign_ev s) ?_
  have hbad : ¬ (sign2 s = true ∧ okN a = true ∧ okN b = true) → Ev (fun k => impl_Two.j0 k s a b true) (two s a b) := by
    intro h
    unfold two; rw [if_neg h]
    refine Ev.step (f := fun _ => some (0, 1)) (fun k => ?_) (Ev.now _)
    rw [impl_Two.j0]; exact if_pos rfl
  by_cases hs : sign2 s = true
  · refine evPos hs (evBind0 (impl_NumOk_eq a) ?_)
    by_cases ha : okN a = true
    · refine evPos ha (evBind0 (impl_NumOk_eq b) ?_)
      by_cases hb : okN b = true
      · unfold two
        rw [if_pos ⟨hs, ha, hb⟩, hb]
        have ha' := okN_t ha
        have hb' := okN_t hb
        refine Ev.step (f := fun _ => some _) (fun k => ?_) (Ev.now _)
        obtain ⟨y, hy, hy2⟩ := impl_product_eq a b ha' hb'
        simp only [impl_Two.j0]
        rw [if_neg (by simp), w64 (x := a + b) (by omega) (by omega), w64 (x := a - b) (by omega) (by omega)]
        rw [hy]
        by_cases h : s = 43
        · simp only [if_pos h]; exact impl_lim _
        · simp only [if_neg h]; clear h
          by_cases h : s = 45
          · simp only [if_pos h]; exact impl_lim _
          · simp only [if_neg h]; clear h
            by_cases h : s = 42
            · simp only [if_pos h, Option.bind_some]
              by_cases h2 : okN (a * b) = true
              · rw [if_pos h2, hy2 h2]; exact impl_lim _
              · rw [if_neg h2, lim, if_neg h2]
            · simp only [if_neg h]; clear h
              by_cases h : s = 37
              · simp only [if_pos h]
                by_cases h2 : b = 0
                · rw [if_pos h2, if_pos h2]
                · rw [if_neg h2, if_neg h2, impl_floor_eq a b h2 ha']; exact impl_lim _
              · simp only [if_neg h]; clear h
                by_cases h : s = 124
                · simp only [if_pos h]
                  by_cases h2 : a = 0
                  · rw [if_pos h2, if_pos h2]; exact impl_lim _
                  · rw [if_neg h2, if_neg h2, impl_floor_eq b a h2 hb']
                    have h3 := fmod_le (b := b) ha' h2
                    have h4 := Int.fmod_def b a
                    rw [Option.bind_some, w64 (x := a * Int.fdiv b a) (by omega) (by omega), ← h4, w64 (by omega) (by omega)]
                    exact impl_lim _
                · simp only [if_neg h]; clear h
                  by_cases h : s = 38
                  · simp only [if_pos h]; exact impl_lim _
                  · simp only [if_neg h]; clear h
                    by_cases h : s = 94
                    · simp only [if_pos h]; exact impl_lim _
                    · simp only [if_neg h]; clear h
                      by_cases h : s = 61
                      · simp only [if_pos h, impl_truth_eq, Option.bind_some]; exact impl_lim _
                      · simp only [if_neg h]; clear h
                        by_cases h : s = 60
                        · simp only [if_pos h, impl_truth_eq, Option.bind_some]; exact impl_lim _
                        · simp only [if_neg h, impl_truth_eq, Option.bind_some]; exact impl_lim _
      · rw [Bool.eq_false_iff.2 hb]; exact hbad (fun h => hb h.2.2)
    · exact evNeg ha (hbad (fun h => ha h.2.1))
  · exact evNeg hs (hbad (fun h => hs h.1))

theorem spec_l1Sign2_eq (s : Int) : spec_l1Sign2.f s = some (sign2 s) := by
  unfold spec_l1Sign2.f sign2
  repeat (split; · simp_all)
  congr 1; rw [Bool.eq_iff_iff]; simp_all

theorem spec_l1In_eq (a b c : Int) : spec_l1In.f a b c = some (decide (b ≤ a ∧ a ≤ c)) := by
  unfold spec_l1In.f
  by_cases h : a ≥ b
  · rw [if_pos h]; congr 1; rw [Bool.eq_iff_iff, decide_eq_true_iff, decide_eq_true_iff]; omega
  · rw [if_neg h]; congr 1; symm; rw [decide_eq_false_iff_not]; omega

theorem spec_NumOk_eq (a : Int) : spec_NumOk.f a = some (okN a) := by
  unfold spec_NumOk.f; rw [spec_l1In_eq]; rfl

theorem spec_l1Bit_eq (b : Bool) : spec_l1Bit.f b = some (tru b) := by cases b <;> rfl

theorem spec_l1MaxT_eq (a b : Int) : spec_l1Max.f a b = some (if a < b then b else a) := by unfold spec_l1Max.f; split <;> split <;> first | rfl | omega | (congr 1; omega)
theorem spec_l1Min_eq (a b : Int) : spec_l1Min.f a b = some (if b < a then b else a) := by unfold spec_l1Min.f; split <;> split <;> first | rfl | omega | (congr 1; omega)
theorem spec_l1Floor_eq (a b : Int) (hb : b ≠ 0) (h : -1000000000000 ≤ a ∧ a ≤ 1000000000000) : spec_l1Floor.f a b = some (Int.fdiv a b) := floor_is a b hb h
theorem spec_l1Times_ev (a b : Int) (ha : -1000000000000 ≤ a ∧ a ≤ 1000000000000) (hb : -1000000000000 ≤ b ∧ b ≤ 1000000000000) : ∃ y, Ev (fun k => spec_l1Times.f k a b) (y, okN (a * b)) ∧ (okN (a * b) = true → y = a * b) := by
  unfold spec_l1Times.f
  have hz : a * b = 0 → ∀ c, c = true → Ev (fun k => spec_l1Times.j0 k a b c) (0, true) := by
    intro _ c hc
    refine Ev.step (f := fun _ => some (0, true)) (fun k => ?_) (Ev.now _)
    simp only [spec_l1Times.j0]; rw [if_pos hc]
  by_cases h0 : a = 0
  · have e : a * b = 0 := by rw [h0, Int.zero_mul]
    rw [e]
    exact ⟨0, evPos h0 (hz e _ rfl), fun _ => rfl⟩
  · by_cases h1 : b = 0
    · have e : a * b = 0 := by rw [h1, Int.mul_zero]
      rw [e]
      exact ⟨0, evNeg h0 (hz e _ (by simp [h1])), fun _ => rfl⟩
    · have e1 : spec_l1Max.f a (wrap64 (-a)) = some (ab a) := by rw [w64 (by omega) (by omega), spec_l1MaxT_eq]; congr 1; unfold ab; split <;> split <;> omega
      have e2 : spec_l1Max.f b (wrap64 (-b)) = some (ab b) := by rw [w64 (by omega) (by omega), spec_l1MaxT_eq]; congr 1; unfold ab; split <;> split <;> omega
      have h2 : 0 < ab b := by unfold ab; split <;> omega
      have h3 : 0 ≤ 1000000000000 / ab b := Int.ediv_nonneg (by decide) (by omega)
      have h4 : 1000000000000 / ab b ≤ 1000000000000 := Int.ediv_le_self _ (by decide)
      have h5 : okN (a * b) = !decide (ab a > 1000000000000 / ab b) := by rw [Int.mul_comm]; exact okN_prod h1
      by_cases h6 : ab a > 1000000000000 / ab b
      · refine ⟨0, evNeg h0 (Ev.step (f := fun _ => some (0, false)) (fun k => ?_) (evSome (by rw [h5]; simp [h6]))), fun h => by rw [h5] at h; simp [h6] at h⟩
        simp only [spec_l1Times.j0]
        rw [if_neg (by simp [h1]), e1, e2]; simp only [Option.bind_some]
        rw [if_neg (by omega), Int.tdiv_eq_ediv_of_nonneg (by decide), w64 (x := 1000000000000 / ab b) (by omega) (by omega), if_pos h6]
      · have h7 : okN (a * b) = true := by rw [h5]; simp [h6]
        have h8 := okN_t h7
        refine ⟨a * b, evNeg h0 (Ev.step (f := fun _ => some (a * b, true)) (fun k => ?_) (evSome (by rw [h7]))), fun _ => rfl⟩
        simp only [spec_l1Times.j0]
        rw [if_neg (by simp [h1]), e1, e2]; simp only [Option.bind_some]
        rw [if_neg (by omega), Int.tdiv_eq_ediv_of_nonneg (by decide), w64 (x := 1000000000000 / ab b) (by omega) (by omega), if_neg h6, w64 (x := a * b) (by omega) (by omega)]
theorem spec_lim (x : Int) : (spec_NumOk.f x).bind (fun t => if t = true then some (x, (0 : Int)) else some (0, 6)) = some (lim x) := by
  rw [spec_NumOk_eq]; simp only [Option.bind_some, lim]; split <;> rfl
theorem spec_Two_ev (s a b : Int) : Ev (fun k => spec_Two.f k s a b) (two s a b) := by
  unfold spec_Two.f
  refine evBind0 (spec_l1Sign2_eq s) ?_
  have hbad : ¬ (sign2 s = true ∧ okN a = true ∧ okN b = true) → Ev (fun k => spec_Two.j0 k s a b true) (two s a b) := by
    intro h
    unfold two; rw [if_neg h]
    refine Ev.step (f := fun _ => some (0, 1)) (fun k => ?_) (Ev.now _)
    rw [spec_Two.j0]; exact if_pos rfl
  by_cases hs : sign2 s = true
  · refine evPos hs (evBind0 (spec_NumOk_eq a) ?_)
    by_cases ha : okN a = true
    · refine evPos ha (evBind0 (spec_NumOk_eq b) ?_)
      by_cases hb : okN b = true
      · unfold two
        rw [if_pos ⟨hs, ha, hb⟩, hb]
        have ha' := okN_t ha
        have hb' := okN_t hb
        obtain ⟨y, hy, hy2⟩ := spec_l1Times_ev a b ha' hb'
        refine Ev.step (g := fun k => spec_Two.j0 k s a b (!true)) (fun k => by simp only [spec_Two.j0]; rfl) ?_
        refine evNeg (by simp) ?_
        rw [w64 (x := a + b) (by omega) (by omega), w64 (x := a - b) (by omega) (by omega)]
        by_cases h : s = 43
        · refine evPos h ?_; rw [if_pos h]; exact evSomeEq (spec_lim _)
        · refine evNeg h ?_; rw [if_neg h]
          by_cases h : s = 45
          · refine evPos h ?_; rw [if_pos h]; exact evSomeEq (spec_lim _)
          · refine evNeg h ?_; rw [if_neg h]
            by_cases h : s = 42
            · refine evPos h ?_; rw [if_pos h]
              refine Ev.bind hy ?_
              by_cases h2 : okN (a * b) = true
              · refine evPos h2 ?_; rw [hy2 h2]; exact evSomeEq (spec_lim _)
              · refine evNeg h2 ?_; rw [lim, if_neg h2]; exact Ev.now _
            · refine evNeg h ?_; rw [if_neg h]
              by_cases h : s = 37
              · refine evPos h ?_; rw [if_pos h]
                by_cases h2 : b = 0
                · refine evPos h2 ?_; rw [if_pos h2]; exact Ev.now _
                · refine evNeg h2 ?_; rw [if_neg h2, spec_l1Floor_eq a b h2 ha']; exact evSomeEq (spec_lim _)
              · refine evNeg h ?_; rw [if_neg h]
                by_cases h : s = 124
                · refine evPos h ?_; rw [if_pos h]
                  by_cases h2 : a = 0
                  · refine evPos h2 ?_; rw [if_pos h2]; exact evSomeEq (spec_lim _)
                  · refine evNeg h2 ?_; rw [if_neg h2, spec_l1Floor_eq b a h2 hb']
                    have h3 := fmod_le (b := b) ha' h2
                    have h4 := Int.fmod_def b a
                    rw [Option.bind_some, w64 (x := a * Int.fdiv b a) (by omega) (by omega), ← h4, w64 (by omega) (by omega)]
                    exact evSomeEq (spec_lim _)
                · refine evNeg h ?_; rw [if_neg h]
                  by_cases h : s = 38
                  · refine evPos h ?_; rw [if_pos h, spec_l1Min_eq]; exact evSomeEq (spec_lim _)
                  · refine evNeg h ?_; rw [if_neg h]
                    by_cases h : s = 94
                    · refine evPos h ?_; rw [if_pos h, spec_l1MaxT_eq]; exact evSomeEq (spec_lim _)
                    · refine evNeg h ?_; rw [if_neg h]
                      by_cases h : s = 61
                      · refine evPos h ?_; rw [if_pos h, spec_l1Bit_eq]; exact evSomeEq (spec_lim _)
                      · refine evNeg h ?_; rw [if_neg h]
                        by_cases h : s = 60
                        · refine evPos h ?_; rw [if_pos h, spec_l1Bit_eq]; exact evSomeEq (spec_lim _)
                        · refine evNeg h ?_; rw [if_neg h]
                          have h62 : s = 62 := by
                            have hq : s = 43 ∨ s = 45 ∨ s = 42 ∨ s = 37 ∨ s = 124 ∨ s = 38 ∨ s = 94 ∨ s = 61 ∨ s = 60 ∨ s = 62 := of_decide_eq_true hs
                            omega
                          refine evPos h62 ?_; rw [spec_l1Bit_eq]; exact evSomeEq (spec_lim _)
      · rw [Bool.eq_false_iff.2 hb]; exact hbad (fun h => hb h.2.2)
    · exact evNeg ha (hbad (fun h => ha h.2.1))
  · exact evNeg hs (hbad (fun h => hs h.1))

theorem impl_oneSign_ev (s : Int) : Ev (fun k => impl_oneSign.f k s) (sign1 s) := by
  unfold impl_oneSign.f impl_hasSign.f
  refine Ev.bind (a := sign1 s) ?_ (Ev.now _)
  refine evEq (hs_step _ s 0 43 _ (by decide) (by decide) (by decide) (hs_step _ s 1 45 _ (by decide) (by decide) (by decide) (hs_step _ s 2 42 _ (by decide) (by decide) (by decide) (hs_step _ s 3 124 _ (by decide) (by decide) (by decide) (hs_step _ s 4 126 _ (by decide) (by decide) (by decide) (hs_end _ s 5 (by decide))))))) ?_
  unfold sign1; rw [Bool.eq_iff_iff]; simp

theorem impl_One_ev (s x : Int) : Ev (fun k => impl_One.f k s x) (one s x) := by
  unfold impl_One.f one
  refine Ev.bind (impl_oneSign_ev s) ?_
  have hbad : Ev (fun k => impl_One.j0 k s x true) (0, 1) := by
    refine Ev.step (f := fun _ => some (0, 1)) (fun k => ?_) (Ev.now _)
    rw [impl_One.j0]; exact if_pos rfl
  by_cases hs : sign1 s = true
  · refine evPos hs (evBind0 (impl_NumOk_eq x) ?_)
    by_cases hx : okN x = true
    · rw [if_pos ⟨hs, hx⟩, hx]
      have hb := okN_t hx
      refine Ev.step (f := fun _ => some _) (fun k => ?_) (Ev.now _)
      simp only [impl_One.j0, impl_truth_eq, impl_within_eq, Option.bind_some]
      rw [if_neg (by simp), w64 (x := -x) (by omega) (by omega), w64 (x := 1 - x) (by omega) (by omega)]
      rw [w64 (x := tru (decide (x > 0)) - tru (decide (x < 0))) (by unfold tru; split <;> split <;> omega) (by unfold tru; split <;> split <;> omega)]
      have hm : mx x (-x) = if x < 0 then -x else x := by unfold mx; split <;> split <;> omega
      rw [hm]
      simp only [decide_eq_true_eq]
      repeat' split
      all_goals first | rfl | omega
    · rw [if_neg (fun h => hx h.2), Bool.eq_false_iff.2 hx]
      exact hbad
  · rw [if_neg (fun h => hs h.1)]
    exact evNeg hs hbad

theorem spec_l1Sign1_eq (s : Int) : spec_l1Sign1.f s = some (sign1 s) := by
  unfold spec_l1Sign1.f sign1
  repeat (split; · simp_all)
  congr 1; rw [Bool.eq_iff_iff]; simp_all

theorem spec_l1Max_eq (a b : Int) : spec_l1Max.f a b = some (if a > b then a else b) := by unfold spec_l1Max.f; split <;> rfl
theorem spec_One_ev (s x : Int) : Ev (fun k => spec_One.f k s x) (one s x) := by
  unfold spec_One.f one
  refine evBind0 (spec_l1Sign1_eq s) ?_
  have hbad : Ev (fun k => spec_One.j0 k s x true) (0, 1) := by
    refine Ev.step (f := fun _ => some (0, 1)) (fun k => ?_) (Ev.now _)
    rw [spec_One.j0]; exact if_pos rfl
  by_cases hs : sign1 s = true
  · refine evPos hs (evBind0 (spec_NumOk_eq x) ?_)
    by_cases hx : okN x = true
    · rw [if_pos ⟨hs, hx⟩, hx]
      have hb := okN_t hx
      refine Ev.step (f := fun _ => some _) (fun k => ?_) (Ev.now _)
      simp only [spec_One.j0, spec_l1Bit_eq, spec_l1In_eq, spec_l1Max_eq, Option.bind_some]
      rw [if_neg (by simp), w64 (x := -x) (by omega) (by omega), w64 (x := 1 - x) (by omega) (by omega)]
      rw [w64 (x := tru (decide (x > 0)) - tru (decide (x < 0))) (by unfold tru; split <;> split <;> omega) (by unfold tru; split <;> split <;> omega)]
      have hm : (if x > -x then x else -x) = if x < 0 then -x else x := by split <;> split <;> omega
      rw [hm]
      simp only [decide_eq_true_eq]
      repeat' split
      all_goals first | rfl | omega
    · rw [if_neg (fun h => hx h.2), Bool.eq_false_iff.2 hx]
      exact hbad
  · rw [if_neg (fun h => hs h.1)]
    exact evNeg hs hbad

def neutral (s : Int) : Int × Bool :=
  if s = 43 ∨ s = 45 ∨ s = 124 ∨ s = 60 ∨ s = 62 then (0, true) else if s = 42 ∨ s = 37 ∨ s = 61 then (1, true)
  else if s = 38 then (1000000000000, true) else if s = 94 then (-1000000000000, true) else (0, false)
theorem impl_Neutral_ev (s : Int) : Ev (fun k => impl_Neutral.f k s) (neutral s) := by
  refine ⟨2, fun k hk => ?_⟩
  obtain ⟨k, rfl⟩ : ∃ m, k = m + 2 := ⟨k - 2, by omega⟩
  have h : s = 43 ∨ s = 45 ∨ s = 124 ∨ s = 60 ∨ s = 62 ∨ s = 42 ∨ s = 37 ∨ s = 61 ∨ s = 38 ∨ s = 94 ∨ (s ≠ 43 ∧ s ≠ 45 ∧ s ≠ 124 ∧ s ≠ 60 ∧ s ≠ 62 ∧ s ≠ 42 ∧ s ≠ 37 ∧ s ≠ 61 ∧ s ≠ 38 ∧ s ≠ 94) := by omega
  rcases h with rfl | rfl | rfl | rfl | rfl | rfl | rfl | rfl | rfl | rfl | ⟨h1, h2, h3, h4, h5, h6, h7, h8, h9, h10⟩
  all_goals simp [neutral, impl_Neutral.f, impl_Neutral.j0, impl_Neutral.j1, *]

theorem laws_big_eq (l : List Int) : laws_big.f l = some (decide ((l.length : Int) > 1048576)) := rfl

theorem and255 (x : Int) : 0 ≤ Go.bits .and .i64 x 255 ∧ Go.bits .and .i64 x 255 ≤ 255 := by
  have h : Go.bits .and .i64 x 255 = IntKind.i64.wrap (((BitVec.ofInt 64 x).toNat &&& 255 : Nat) : Int) := by
    simp only [Go.bits, BitVec.toNat_and]; rfl
  have h2 : (BitVec.ofInt 64 x).toNat &&& 255 ≤ 255 := Nat.and_le_right
  rw [h, IntKind.wrap_i64]; omega
/-- A cursor's place lies in its bytes. -/
def Cu (c : List Int) (i : Int) : Prop := 0 ≤ i ∧ i ≤ c.length
theorem spec_l1Byte_dr (c : List Int) (i h : Int) (hc : Cu c i) (hl : c.length ≤ 1048576) : ∃ x i' h', spec_l1Byte.f c i h = some (x, i', h') ∧ (0 ≤ x ∧ x ≤ 255) ∧ Cu c i' := by
  obtain ⟨h0, h1⟩ := hc
  unfold spec_l1Byte.f
  by_cases h2 : i < (c.length : Int)
  · rw [if_pos h2, if_pos h0, w64 (x := i + 1) (by omega) (by omega)]
    exact ⟨_, _, _, rfl, and255 _, by omega, by omega⟩
  · rw [if_neg h2]
    exact ⟨_, _, _, rfl, and255 _, h0, h1⟩
theorem spec_l1Below_dr (c : List Int) (i h n : Int) (hc : Cu c i) (hl : c.length ≤ 1048576) : ∃ x i' h', spec_l1Below.f c i h n = some (x, i', h') ∧ (0 ≤ x ∧ (x < n ∨ n ≤ 0 ∧ x = 0)) ∧ Cu c i' := by
  unfold spec_l1Below.f
  by_cases h1 : n ≤ 0
  · rw [if_pos h1]; exact ⟨_, _, _, rfl, ⟨by omega, .inr ⟨h1, rfl⟩⟩, hc⟩
  · rw [if_neg h1]
    by_cases h2 : n ≤ 256
    · obtain ⟨x, i', h', e, hx, hc'⟩ := spec_l1Byte_dr c i h hc hl
      rw [if_pos h2, e, Option.bind_some, if_neg (by omega)]
      have h3 := Int.tmod_eq_emod_of_nonneg (b := n) hx.1
      have h4 := Int.emod_nonneg x (show n ≠ 0 by omega)
      have h5 := Int.emod_lt_of_pos x (show 0 < n by omega)
      exact ⟨_, _, _, rfl, ⟨by rw [h3]; exact h4, .inl (by rw [h3]; exact h5)⟩, hc'⟩
    · obtain ⟨x, i1, h1', e1, hx, hc1⟩ := spec_l1Byte_dr c i h hc hl
      obtain ⟨y, i2, h2', e2, hy, hc2⟩ := spec_l1Byte_dr c i1 h1' hc1 hl
      obtain ⟨z, i3, h3', e3, hz, hc3⟩ := spec_l1Byte_dr c i2 h2' hc2 hl
      obtain ⟨u, i4, h4', e4, hu, hc4⟩ := spec_l1Byte_dr c i3 h3' hc3 hl
      rw [if_neg h2, e1, Option.bind_some]; dsimp only
      rw [e2, Option.bind_some]; dsimp only
      rw [e3, Option.bind_some]; dsimp only
      rw [e4, Option.bind_some]; dsimp only
      rw [if_neg (by omega), w64 (x := x * 16777216) (by omega) (by omega), w64 (x := y * 65536) (by omega) (by omega), w64 (x := x * 16777216 + y * 65536) (by omega) (by omega), w64 (x := z * 256) (by omega) (by omega), w64 (x := x * 16777216 + y * 65536 + z * 256) (by omega) (by omega), w64 (x := x * 16777216 + y * 65536 + z * 256 + u) (by omega) (by omega)]
      generalize hq : x * 16777216 + y * 65536 + z * 256 + u = q
      have h3 := Int.tmod_eq_emod_of_nonneg (b := n) (show 0 ≤ q by omega)
      have h4 := Int.emod_nonneg q (show n ≠ 0 by omega)
      have h5 := Int.emod_lt_of_pos q (show 0 < n by omega)
      exact ⟨_, _, _, rfl, ⟨by rw [h3]; exact h4, .inl (by rw [h3]; exact h5)⟩, hc4⟩

theorem spec_l1New_l0 (c : List Int) (hl : c.length ≤ 1048576) (d : Nat) : ∀ (i : Nat) (h : Int), i + d = c.length → ∃ h', Ev (fun k => spec_l1New.l0 k c h (i : Int)) (c, 0, h') := by
  induction d with
  | zero =>
    intro i h hi
    refine ⟨h, Ev.step (f := fun _ => some (c, 0, h)) (fun k => ?_) (Ev.now _)⟩
    simp only [spec_l1New.l0]; rw [if_neg (by omega)]
  | succ d ih =>
    intro i h hi
    by_cases h4 : (i : Int) < 4000
    · obtain ⟨h', e⟩ := ih (i + 1) (Go.bits .and .i64 (wrap64 ((wrap64 ((wrap64 (h * 131)) + (wrap64 (rd c (i : Int))))) + 7)) 1073741823) (by omega)
      refine ⟨h', Ev.step (fun k => ?_) e⟩
      simp only [spec_l1New.l0]
      rw [if_pos (by omega), if_pos h4, if_pos (by omega), w64s i (by omega)]
    · refine ⟨h, Ev.step (f := fun _ => some (c, 0, h)) (fun k => ?_) (Ev.now _)⟩
      simp only [spec_l1New.l0]; rw [if_pos (by omega), if_neg h4]
theorem spec_l1New_dr (c : List Int) (hl : c.length ≤ 1048576) : ∃ h, Ev (fun k => spec_l1New.f k c) (c, 0, h) := by
  unfold spec_l1New.f
  exact spec_l1New_l0 c hl c.length 0 _ (by omega)
theorem cu0 (c : List Int) : Cu c 0 := ⟨Int.le_refl 0, by omega⟩

theorem spec_l1Once_dr (c : List Int) (i h n : Int) (hc : Cu c i) (hl : c.length ≤ 1048576) : ∃ x i' h', spec_l1Once.f c i h n = some (x, i', h') ∧ Cu c i' := by
  obtain ⟨x, i', h', e, _, hc'⟩ := spec_l1Below_dr c i h n hc hl
  unfold spec_l1Once.f; rw [e, Option.bind_some]
  exact ⟨_, _, _, rfl, hc'⟩

theorem spec_l1PickInt_dr (c : List Int) (i h : Int) (l : List Int) (hn : 0 < l.length) (hc : Cu c i) (hl : c.length ≤ 1048576) : ∃ x i' h', spec_l1PickInt.f c i h l = some (x, i', h') ∧ x ∈ l ∧ Cu c i' := by
  obtain ⟨x, i', h', e, hx, hc'⟩ := spec_l1Below_dr c i h (l.length : Int) hc hl
  have h1 : x < (l.length : Int) := by omega
  have h2 : x.toNat < l.length := by omega
  unfold spec_l1PickInt.f; rw [e, Option.bind_some]; dsimp only
  rw [if_pos hx.1, if_pos h1]
  refine ⟨_, _, _, rfl, ?_, hc'⟩
  simp only [rd, List.getD_eq_getElem?_getD, List.getElem?_eq_getElem h2, Option.getD_some]
  exact List.getElem_mem h2

theorem spec_l1DrawSign_dr (c : List Int) (i h : Int) (hc : Cu c i) (hl : c.length ≤ 1048576) : ∃ x i' h', spec_l1DrawSign.f c i h = some (x, i', h') ∧ Cu c i' := by
  obtain ⟨b, i1, h1, e1, hc1⟩ := spec_l1Once_dr c i h 20 hc hl
  unfold spec_l1DrawSign.f; rw [e1, Option.bind_some]; dsimp only
  cases b with
  | true =>
    obtain ⟨x, i2, h2, e2, hx, hc2⟩ := spec_l1PickInt_dr c i1 h1 [0, -1, 105, 300, 47] (by decide) hc1 hl
    rw [if_pos rfl, e2, Option.bind_some]
    exact ⟨_, _, _, rfl, hc2⟩
  | false =>
    obtain ⟨x, i2, h2, e2, hx, hc2⟩ := spec_l1PickInt_dr c i1 h1 [43, 45, 42, 37, 124, 38, 94, 61, 60, 62, 126] (by decide) hc1 hl
    rw [if_neg (by simp), e2, Option.bind_some]
    exact ⟨_, _, _, rfl, hc2⟩

theorem spec_l1DrawNum_dr (c : List Int) (i h : Int) (hc : Cu c i) (hl : c.length ≤ 1048576) : ∃ x i' h', spec_l1DrawNum.f c i h = some (x, i', h') ∧ (-1000000000000 ≤ x ∧ x ≤ 1000000000000) ∧ Cu c i' := by
  obtain ⟨b, i1, h1, e1, hc1⟩ := spec_l1Once_dr c i h 12 hc hl
  unfold spec_l1DrawNum.f; rw [e1, Option.bind_some]; dsimp only
  cases b with
  | true =>
    obtain ⟨x, i2, h2, e2, hx, hc2⟩ := spec_l1PickInt_dr c i1 h1 [1000000000000, -1000000000000, 999999999999, 1000000, -1000000, 1000001, 999999999999] (by decide) hc1 hl
    rw [if_pos rfl, e2, Option.bind_some]
    refine ⟨_, _, _, rfl, ?_, hc2⟩
    simp only [List.mem_cons, List.not_mem_nil, or_false] at hx
    dsimp only
    omega
  | false =>
    obtain ⟨x, i2, h2, e2, hx, hc2⟩ := spec_l1Below_dr c i1 h1 20 hc1 hl
    rw [if_neg (by simp), e2, Option.bind_some]
    refine ⟨_, _, _, rfl, ?_, hc2⟩
    dsimp only
    rw [w64 (by omega) (by omega)]; omega

theorem spec_l1DrawRaw_dr (c : List Int) (i h : Int) (hc : Cu c i) (hl : c.length ≤ 1048576) : ∃ x i' h', spec_l1DrawRaw.f c i h = some (x, i', h') ∧ (-9223372036854775808 ≤ x ∧ x ≤ 9223372036854775807) ∧ Cu c i' := by
  obtain ⟨b, i1, h1, e1, hc1⟩ := spec_l1Once_dr c i h 15 hc hl
  unfold spec_l1DrawRaw.f; rw [e1, Option.bind_some]; dsimp only
  cases b with
  | true =>
    obtain ⟨x, i2, h2, e2, hx, hc2⟩ := spec_l1PickInt_dr c i1 h1 [1000000000001, -1000000000001, 9223372036854775807, -9223372036854775808] (by decide) hc1 hl
    rw [if_pos rfl, e2, Option.bind_some]
    refine ⟨_, _, _, rfl, ?_, hc2⟩
    simp only [List.mem_cons, List.not_mem_nil, or_false] at hx
    dsimp only
    omega
  | false =>
    obtain ⟨x, i2, h2, e2, hx, hc2⟩ := spec_l1DrawNum_dr c i1 h1 hc1 hl
    rw [if_neg (by simp), e2, Option.bind_some]
    refine ⟨_, _, _, rfl, ?_, hc2⟩
    dsimp only
    omega

theorem spec_DrawTwo_dr (c : List Int) (hl : c.length ≤ 1048576) : ∃ s a b, Ev (fun k => spec_DrawTwo.f k c) (s, a, b) := by
  unfold spec_DrawTwo.f
  obtain ⟨h0, e0⟩ := spec_l1New_dr c hl
  obtain ⟨s, i1, h1, e1, hc1⟩ := spec_l1DrawSign_dr c 0 h0 (cu0 c) hl
  obtain ⟨a, i2, h2, e2, _, hc2⟩ := spec_l1DrawRaw_dr c i1 h1 hc1 hl
  obtain ⟨b, i3, h3, e3, _, hc3⟩ := spec_l1DrawRaw_dr c i2 h2 hc2 hl
  exact ⟨s, a, b, Ev.bind e0 (evBind0 e1 (evBind0 e2 (evBind0 e3 (Ev.now _))))⟩

theorem lim_cases (x : Int) : ((lim x).2 = 0 ∧ okN (lim x).1 = true) ∨ (lim x).2 = 6 ∧ (lim x).1 = 0 := by
  unfold lim; by_cases h : okN x = true
  · rw [if_pos h]; exact .inl ⟨rfl, h⟩
  · rw [if_neg h]; exact .inr ⟨rfl, rfl⟩
/-- What two tells: right, or a code and nought; and when the code is 1. -/
theorem two_cases (s a b : Int) : (((two s a b).2 = 0 ∧ okN (two s a b).1 = true) ∨ (two s a b).2 ≠ 0 ∧ (two s a b).1 = 0) ∧ ((two s a b).2 = 1 ↔ ¬ (sign2 s = true ∧ okN a = true ∧ okN b = true)) := by
  by_cases h : sign2 s = true ∧ okN a = true ∧ okN b = true
  · have hh : ∃ x, two s a b = lim x ∨ two s a b = (0, 2) := by
      unfold two; rw [if_pos h]
      repeat' split
      all_goals first | exact ⟨0, .inr rfl⟩ | exact ⟨_, .inl rfl⟩
    obtain ⟨x, hx | hx⟩ := hh
    · rw [hx]
      rcases lim_cases x with h1 | h1
      · exact ⟨.inl h1, by rw [h1.1]; simp [h]⟩
      · exact ⟨.inr ⟨by rw [h1.1]; decide, h1.2⟩, by rw [h1.1]; simp [h]⟩
    · rw [hx]; exact ⟨.inr ⟨by decide, rfl⟩, by simp [h]⟩
  · have e : two s a b = (0, 1) := by unfold two; rw [if_neg h]
    rw [e]; exact ⟨.inr ⟨by decide, rfl⟩, by simp only [h]; simp⟩
theorem one_cases (s a : Int) : (one s a).2 = 0 → okN (one s a).1 = true := by
  intro h
  unfold one at h ⊢
  by_cases h1 : sign1 s = true ∧ okN a = true
  · rw [if_pos h1] at h ⊢
    have hb := okN_t h1.2
    have ht : ∀ b, tru b = 0 ∨ tru b = 1 := fun b => by cases b <;> simp [tru]
    have h3 := ht (decide (a > 0))
    have h4 := ht (decide (a < 0))
    by_cases e1 : s = 45
    · rw [if_pos e1]; exact decide_eq_true (by omega)
    rw [if_neg e1] at h ⊢
    by_cases e2 : s = 42
    · rw [if_pos e2]; exact decide_eq_true (by omega)
    rw [if_neg e2] at h ⊢
    by_cases e3 : s = 124
    · rw [if_pos e3]; refine decide_eq_true ?_; dsimp only; split <;> omega
    rw [if_neg e3] at h ⊢
    by_cases e4 : s = 126
    · rw [if_pos e4] at h ⊢
      by_cases e5 : 0 ≤ a ∧ a ≤ 1
      · rw [if_pos e5]; exact decide_eq_true (by omega)
      · rw [if_neg e5] at h; exact absurd h (by decide)
    · rw [if_neg e4]; exact h1.2
  · rw [if_neg h1] at h; exact absurd h (by decide)
theorem neutral_sign (s : Int) : (neutral s).2 = sign2 s := by
  unfold neutral sign2
  rw [Bool.eq_iff_iff, decide_eq_true_iff]
  repeat' split
  all_goals simp <;> omega
theorem neutral_two (s b : Int) (hb : okN b = true) (h : s = 43 ∨ s = 42 ∨ s = 38 ∨ s = 94) : two s (neutral s).1 b = (b, 0) := by
  have hb' := okN_t hb
  have hl : lim b = (b, 0) := by unfold lim; rw [if_pos hb]
  rcases h with rfl | rfl | rfl | rfl
  · show two 43 0 b = _
    unfold two; rw [if_pos ⟨by decide, by decide, hb⟩, if_pos rfl, Int.zero_add, hl]
  · show two 42 1 b = _
    unfold two; rw [if_pos ⟨by decide, by decide, hb⟩, if_neg (by decide), if_neg (by decide), if_pos rfl, Int.one_mul, hl]
  · show two 38 1000000000000 b = _
    unfold two; rw [if_pos ⟨by decide, by decide, hb⟩, if_neg (by decide), if_neg (by decide), if_neg (by decide), if_neg (by decide), if_neg (by decide), if_pos rfl]
    by_cases h : b < 1000000000000
    · rw [if_pos h, hl]
    · rw [if_neg h, ← hl]; congr 1; omega
  · show two 94 (-1000000000000) b = _
    unfold two; rw [if_pos ⟨by decide, by decide, hb⟩, if_neg (by decide), if_neg (by decide), if_neg (by decide), if_neg (by decide), if_neg (by decide), if_neg (by decide), if_pos rfl]
    by_cases h : -1000000000000 < b
    · rw [if_pos h, hl]
    · rw [if_neg h, ← hl]; congr 1; omega
theorem FnNums_j1 (s b n : Int) (hn : okN b = true → (s = 43 ∨ s = 42 ∨ s = 38 ∨ s = 94) → n = (neutral s).1) : Ev (fun k => laws_FnNums.j1 k s b n (neutral s).2 false) true := by
  refine Ev.step (fun k => by rw [laws_FnNums.j1]) (evNeg (by simp) (evBind0 (impl_NumOk_eq b) ?_))
  by_cases hb : okN b = true
  · refine evPos hb ?_
    have hk : (s = 43 ∨ s = 42 ∨ s = 38 ∨ s = 94) → Ev (fun k => (impl_Two.f k s n b).bind fun bt => (if (neutral s).2 = true then (if bt.2 = 0 then (some (bt.1 == b)) else (some false)) else (some false))) true := by
      intro h
      rw [hn hb h]
      refine Ev.bind (impl_Two_ev s (neutral s).1 b) ?_
      rw [neutral_two s b hb h]
      refine evPos ?_ (evPos rfl (evSome (by simp)))
      rw [neutral_sign]; rcases h with rfl | rfl | rfl | rfl <;> decide
    by_cases h1 : s = 43
    · exact evPos h1 (hk (.inl h1))
    refine evNeg h1 ?_
    by_cases h2 : s = 42
    · exact evPos h2 (hk (.inr (.inl h2)))
    refine evNeg h2 ?_
    by_cases h3 : s = 38
    · exact evPos h3 (hk (.inr (.inr (.inl h3))))
    refine evNeg h3 ?_
    by_cases h4 : s = 94
    · exact evPos h4 (hk (.inr (.inr (.inr h4))))
    exact evNeg h4 (Ev.now _)
  · exact evNeg hb (Ev.now _)
theorem FnNums_j0 (s a b : Int) : Ev (fun k => laws_FnNums.j0 k s a b (two s a b).2 false) true := by
  have hj := FnNums_j1 s b (neutral s).1 (fun _ _ => rfl)
  obtain ⟨_, h1⟩ := two_cases s a b
  refine Ev.step (fun k => by rw [laws_FnNums.j0]) (evNeg (by simp) (Ev.bind (impl_Neutral_ev s) ?_))
  by_cases h2 : (two s a b).2 = 1
  · refine evPos h2 (evBind0 (impl_NumOk_eq a) ?_)
    have h3 := h1.1 h2
    by_cases ha : okN a = true
    · refine evPos ha (evBind0 (impl_NumOk_eq b) ?_)
      by_cases hb : okN b = true
      · have h4 : (neutral s).2 = false := by
          rw [neutral_sign]; exact Bool.eq_false_iff.2 (fun h => h3 ⟨h, ha, hb⟩)
        refine evNeg (by rw [hb, h4]; decide) hj
      · rw [Bool.eq_false_iff.2 hb]
        by_cases h5 : ((neutral s).2 != (!false)) = true
        · exact evPos h5 hj
        · exact evNeg h5 hj
    · refine evNeg ha ?_
      by_cases h5 : ((neutral s).2 != true) = true
      · exact evPos h5 hj
      · exact evNeg h5 hj
  · have h3 : sign2 s = true ∧ okN a = true ∧ okN b = true := Classical.not_not.1 (fun h => h2 (h1.2 h))
    exact evNeg h2 (evNeg (by rw [neutral_sign, h3.1]; decide) hj)
theorem FnNums : laws_FnNums.Pure := by
  intro l _ _ _
  refine Ev.rounds (g := fun k => laws_FnNums.f k l) ?_
  unfold laws_FnNums.f
  refine evBind0 (laws_big_eq l) ?_
  by_cases hb : (l.length : Int) > 1048576
  · exact evPos (decide_eq_true hb) (Ev.now _)
  refine evNeg (by simpa using hb) ?_
  have hl : l.length ≤ 1048576 := by omega
  obtain ⟨s, a, b, e⟩ := spec_DrawTwo_dr l hl
  refine Ev.bind e (Ev.bind (impl_Two_ev s a b) (Ev.bind (spec_Two_ev s a b) (Ev.bind (impl_One_ev s a) (Ev.bind (spec_One_ev s a) (evPos rfl (evPos rfl ?_))))))
  dsimp only
  have hj := FnNums_j0 s a b
  have h1 := one_cases s a
  rcases (two_cases s a b).1 with ⟨h2, h3⟩ | ⟨h2, h3⟩
  · refine evPos h2 (evBind0 (impl_NumOk_eq _) (evPos h3 ?_))
    by_cases h4 : (one s a).2 = 0
    · exact evPos h4 (evBind0 (impl_NumOk_eq _) (evPos (h1 h4) hj))
    · exact evNeg h4 hj
  · refine evNeg h2 ?_
    have h5 : ((two s a b).1 != 0) = false := by rw [h3]; decide
    by_cases h4 : (one s a).2 = 0
    · exact evPos h4 (evBind0 (impl_NumOk_eq _) (evPos (h1 h4) (by rw [h5]; exact hj)))
    · exact evNeg h4 (by rw [h5]; exact hj)

end Go.Proofs.Ytlpgopiajkajjaa.Pure
