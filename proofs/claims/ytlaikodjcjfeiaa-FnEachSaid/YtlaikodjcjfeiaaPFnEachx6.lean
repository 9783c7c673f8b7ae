/- The walk of what a law reaches, for the law's row: written by a program of this session; it has no condition of its own. -/
import Derived.Test.YtlaikodjcjfeiaaPFnEachx0
import Derived.Test.YtlaikodjcjfeiaaQ
import Derived.Test.YtlaikodjcjfeiaaPFnEachx5
namespace Go.Proofs.Ytlaikodjcjfeiaa.PFnEach
open Go.RowKit Go.Proofs.YtlaikodjcjfeiaaW.PrintWords Go.Proofs.YtlaikodjcjfeiaaW.PrintLast Go.Proofs.YtlaikodjcjfeiaaW.PrintMore Go.Proofs.YtlaikodjcjfeiaaQ
attribute [local go_sem] max2_int min2_int max_two min_two max_three min_three max_four min_four   -- for this text's walks alone
set_option linter.unusedVariables false
set_option linter.unusedSimpArgs false

/-! ### impl_hasSign: function 110 -/
def impl_hasSign.l0 : Nat → ByteArray → Int → Int → Option (Bool)
 | 0, _, _, _ => none
 | k + 1, x0, x1, x5 => if x5 < (x0.size : Int) then (if 0 ≤ x5 then (if (wrap64 (bt x0 x5)) = x1 then (some true) else (impl_hasSign.l0 k x0 x1 (wrap64 (x5 + 1)))) else (none)) else (some false)
def impl_hasSign.f (k : Nat) (a0 : ByteArray) (a1 : Int) : Option (Bool) := impl_hasSign.l0 k a0 a1 0
set_option maxHeartbeats 8000000 in
set_option maxRecDepth 100000 in
theorem impl_hasSign.calls (k : Nat) (a0 : ByteArray) (a1 : Int) (r : Bool) (w : World) (h : impl_hasSign.f k a0 a1 = some r) :
  Calls Try.prog 110 #[.string a0, .int .i64 a1] w fun e w' => e = .returned (.bool r) ∧ Drawn0 w w' := by
 have H : (impl_hasSign.l0 k a0 a1 0) = some r := h
 clear h
 have H' := Aside0.mk H
 clear H
 go_enter Try.func110, Try.ntmps110
 go_wp2
 go_loopg [5] k (fun kq v5 w' => ∃ (x5_1 : Int), v5 = .int .i64 x5_1 ∧ Aside0 (impl_hasSign.l0 kq a0 a1 x5_1 = some r) ∧ Aside0 (kq ≤ k) ∧ Drawn0 w w')
 case atStart => exact ⟨(0), (by first | rfl | (simp; done) | (simp [*]; done)), H', ⟨Nat.le_refl _⟩, by repeat (first | exact Drawn0.refl _ | apply Drawn0.step)⟩
 case round =>
  clear H'
  try clear c1
  try clear p2
  obtain ⟨x5_1, rfl, HA, HK1, ⟨m1, rfl⟩⟩ := hrel
  cases gk with
  | zero => exact absurd HA.out (by simp [impl_hasSign.l0])
  | succ k1 =>
   have H := HA.out
   clear HA
   simp only [impl_hasSign.l0] at H
   by_cases c3 : x5_1 < (a0.size : Int)
   ·
    rw [if_pos c3] at H
    have c3b0 : decide (x5_1 < (a0.size : Int)) = true := decide_eq_true c3
    clear c3
    by_cases c4 : 0 ≤ x5_1
    ·
     rw [if_pos c4] at H
     have c4b0 : decide (0 ≤ x5_1) = true := decide_eq_true c4
     clear c4
     by_cases c6 : (wrap64 (bt a0 x5_1)) = a1
     ·
      rw [if_pos c6] at H
      have c6b0 : ((wrap64 (bt a0 x5_1)) == a1) = true := beq_iff_eq.mpr c6
      have c6b1 : ((wrap64 (bt a0 x5_1)) != a1) = false := bne_eq_false_iff_eq.mpr c6
      clear c6
      obtain rfl := Option.some.inj H
      have p5 : 0 ≤ (x5_1 : Int) := of_decide_eq_true (by first | (with_reducible assumption) | assumption)
      have q5 : x5_1 < (a0.size : Int) := of_decide_eq_true (by first | (with_reducible assumption) | assumption)
      have hx5 := bt_at a0 x5_1
      replace p5 := eq_true p5
      replace q5 := eq_true q5
      go_wp2
      go_ret
      exact ⟨rU, dU⟩
     ·
      rw [if_neg c6] at H
      have c6b0 : ((wrap64 (bt a0 x5_1)) == a1) = false := beq_eq_false_iff_ne.mpr c6
      have c6b1 : ((wrap64 (bt a0 x5_1)) != a1) = true := bne_iff_ne.mpr c6
      have H' := Aside0.mk H
      clear H
      have p5 : 0 ≤ (x5_1 : Int) := of_decide_eq_true (by first | (with_reducible assumption) | assumption)
      have q5 : x5_1 < (a0.size : Int) := of_decide_eq_true (by first | (with_reducible assumption) | assumption)
      have hx5 := bt_at a0 x5_1
      replace p5 := eq_true p5
      replace q5 := eq_true q5
      go_wp2
      go_roundg k1
      case measure => have := HK1.out; omega
      case rel => exact ⟨(wrap64 (x5_1 + 1)), (by first | rfl | (simp; done) | (simp [*]; done)), H', ⟨by have := HK1.out; omega⟩, by repeat (first | exact Drawn0.refl _ | apply Drawn0.step)⟩
    ·
     rw [if_neg c4] at H
     exact absurd H (by simp)
   ·
    rw [if_neg c3] at H
    have c3b0 : decide (x5_1 < (a0.size : Int)) = false := decide_eq_false c3
    clear c3
    obtain rfl := Option.some.inj H
    go_wp2
    go_ret
    exact ⟨rU, dU⟩

/-! ### impl_twoSign: function 72 -/
def impl_twoSign.f (k : Nat) (a0 : Int) : Option (Bool) := (impl_hasSign.f k (⟨#[43, 45, 42, 37, 124, 38, 94, 61, 60, 62]⟩ : ByteArray) a0).bind fun t407 => (some t407)
set_option maxHeartbeats 8000000 in
set_option maxRecDepth 100000 in
theorem impl_twoSign.calls (k : Nat) (a0 : Int) (r : Bool) (w : World) (h : impl_twoSign.f k a0 = some r) :
  Calls Try.prog 72 #[.int .i64 a0] w fun e w' => e = .returned (.bool r) ∧ Drawn0 w w' := by
 have H : ((impl_hasSign.f k (⟨#[43, 45, 42, 37, 124, 38, 94, 61, 60, 62]⟩ : ByteArray) a0).bind fun t407 => (some t407)) = some r := h
 clear h
 replace H := Option.bind_eq_some_iff.mp H
 obtain ⟨t407, A20, H⟩ := H
 replace H : (some t407) = some r := H
 have A2 := Aside0.mk A20
 clear A20
 obtain rfl := Option.some.inj H
 go_enter Try.func72, Try.ntmps72
 go_wp2_with (first | ((with_reducible refine gate_callee (f := 110) rfl ?_); refine goesL_ (some 4) rfl rfl Try.func110 (by kernel_rfl) rfl #[.string (⟨#[43, 45, 42, 37, 124, 38, 94, 61, 60, 62]⟩ : ByteArray), .int .i64 a0] rfl lU ?_; (with_reducible refine (impl_hasSign.calls k (⟨#[43, 45, 42, 37, 124, 38, 94, 61, 60, 62]⟩ : ByteArray) a0 t407 _ A2.out).mono ?_); rintro e w' ⟨rfl, ⟨nd, rfl⟩⟩; refine ⟨_, rfl, ?_⟩))
 go_ret
 exact ⟨rU, dU⟩

/-! ### impl_product: function 80 -/
def impl_product.f (a0 : Int) (a1 : Int) : Option (Int × Bool) := if a0 = 0 then (some (wrap64 (a0 * a1), true)) else (if (mx a0 (wrap64 (-a0))) = 0 then (none) else (if (mx a1 (wrap64 (-a1))) > (wrap64 (Int.tdiv (1000000000000 : Int) (mx a0 (wrap64 (-a0))))) then (some (0, false)) else (some (wrap64 (a0 * a1), true))))
set_option maxHeartbeats 8000000 in
set_option maxRecDepth 100000 in
theorem impl_product.calls (a0 : Int) (a1 : Int) (r1 : Int) (r2 : Bool) (w : World) (h : impl_product.f a0 a1 = some (r1, r2)) :
  Calls Try.prog 80 #[.int .i64 a0, .int .i64 a1] w fun e w' => e = .returned (.tuple #[.int .i64 r1, .bool r2]) ∧ Below w.heap.size w w' := by
 have HB := Aside0.mk (Below.refl w.heap.size w)
 have H : (if a0 = 0 then (some (wrap64 (a0 * a1), true)) else (if (mx a0 (wrap64 (-a0))) = 0 then (none) else (if (mx a1 (wrap64 (-a1))) > (wrap64 (Int.tdiv (1000000000000 : Int) (mx a0 (wrap64 (-a0))))) then (some (0, false)) else (some (wrap64 (a0 * a1), true))))) = some (r1, r2) := h
 clear h
 by_cases c3 : a0 = 0
 ·
  rw [if_pos c3] at H
  have c3b0 : (a0 == 0) = true := beq_iff_eq.mpr c3
  have c3b1 : (a0 != 0) = false := bne_eq_false_iff_eq.mpr c3
  clear c3
  simp only [Option.some.injEq, Prod.mk.injEq] at H
  obtain ⟨rfl, rfl⟩ := H
  go_enter Try.func80, Try.ntmps80
  go_wp2
  go_ret2
  exact ⟨by first | rfl | (simp [errW_none, errW_some] <;> rfl) | (simp [*, errW_none, errW_some] <;> rfl), by exact bU HB.out⟩
 ·
  rw [if_neg c3] at H
  have c3b0 : (a0 == 0) = false := beq_eq_false_iff_ne.mpr c3
  have c3b1 : (a0 != 0) = true := bne_iff_ne.mpr c3
  obtain ⟨ji4, hji4⟩ : ∃ j_ : Int, (mx a1 (wrap64 (-a1))) = j_ := ⟨_, rfl⟩
  replace H : (if (mx a0 (wrap64 (-a0))) = 0 then (none) else (if (ji4) > (wrap64 (Int.tdiv (1000000000000 : Int) (mx a0 (wrap64 (-a0))))) then (some (0, false)) else (some (wrap64 (a0 * a1), true)))) = some (r1, r2) := by first | (rw [hji4] at H; exact H) | (simp only [hji4] at H ⊢; exact H)
  have hji4_ : (if a1 < (wrap64 (-a1)) then (wrap64 (-a1)) else a1) = ji4 := hji4
  obtain ⟨ji5, hji5⟩ : ∃ j_ : Int, (mx a0 (wrap64 (-a0))) = j_ := ⟨_, rfl⟩
  replace H : (if (ji5) = 0 then (none) else (if (ji4) > (wrap64 (Int.tdiv (1000000000000 : Int) (ji5))) then (some (0, false)) else (some (wrap64 (a0 * a1), true)))) = some (r1, r2) := by first | (rw [hji5] at H; exact H) | (simp only [hji5] at H ⊢; exact H)
  have hji5_ : (if a0 < (wrap64 (-a0)) then (wrap64 (-a0)) else a0) = ji5 := hji5
  by_cases c6 : (ji5) = 0
  ·
   rw [if_pos c6] at H
   exact absurd H (by simp)
  ·
   rw [if_neg c6] at H
   have c6b0 : ((ji5) == 0) = false := beq_eq_false_iff_ne.mpr c6
   have c6b1 : ((ji5) != 0) = true := bne_iff_ne.mpr c6
   by_cases c7 : (ji4) > (wrap64 (Int.tdiv (1000000000000 : Int) (ji5)))
   ·
    rw [if_pos c7] at H
    have c7b0 : decide ((wrap64 (Int.tdiv (1000000000000 : Int) (ji5))) < (ji4)) = true := decide_eq_true c7
    clear c7
    simp only [Option.some.injEq, Prod.mk.injEq] at H
    obtain ⟨rfl, rfl⟩ := H
    go_enter Try.func80, Try.ntmps80
    go_wp2
    go_ret2
    exact ⟨by first | rfl | (simp [errW_none, errW_some] <;> rfl) | (simp only [← hji4, ← hji5]; first | rfl | (simp [errW_none, errW_some] <;> rfl)) | (simp [*, errW_none, errW_some] <;> rfl), by exact bU HB.out⟩
   ·
    rw [if_neg c7] at H
    have c7b0 : decide ((wrap64 (Int.tdiv (1000000000000 : Int) (ji5))) < (ji4)) = false := decide_eq_false c7
    clear c7
    simp only [Option.some.injEq, Prod.mk.injEq] at H
    obtain ⟨rfl, rfl⟩ := H
    go_enter Try.func80, Try.ntmps80
    go_wp2
    go_ret2
    exact ⟨by first | rfl | (simp [errW_none, errW_some] <;> rfl) | (simp only [← hji4, ← hji5]; first | rfl | (simp [errW_none, errW_some] <;> rfl)) | (simp [*, errW_none, errW_some] <;> rfl), by exact bU HB.out⟩

/-! ### impl_floor: function 81 -/
def impl_floor.f (a0 : Int) (a1 : Int) : Option (Int) := if a1 = 0 then (none) else (if (Int.tmod a0 a1) = 0 then (some (wrap64 (Int.tdiv a0 a1))) else (if ((decide (a0 < 0)) != (decide (a1 < 0))) = true then (some (wrap64 ((wrap64 (Int.tdiv a0 a1)) - 1))) else (some (wrap64 (Int.tdiv a0 a1)))))
set_option maxHeartbeats 8000000 in
set_option maxRecDepth 100000 in
theorem impl_floor.calls (a0 : Int) (a1 : Int) (r : Int) (w : World) (h : impl_floor.f a0 a1 = some r) :
  Calls Try.prog 81 #[.int .i64 a0, .int .i64 a1] w fun e w' => e = .returned (.int .i64 r) ∧ Drawn0 w w' := by
 have H : (if a1 = 0 then (none) else (if (Int.tmod a0 a1) = 0 then (some (wrap64 (Int.tdiv a0 a1))) else (if ((decide (a0 < 0)) != (decide (a1 < 0))) = true then (some (wrap64 ((wrap64 (Int.tdiv a0 a1)) - 1))) else (some (wrap64 (Int.tdiv a0 a1)))))) = some r := h
 clear h
 by_cases c3 : a1 = 0
 ·
  rw [if_pos c3] at H
  exact absurd H (by simp)
 ·
  rw [if_neg c3] at H
  have c3b0 : (a1 == 0) = false := beq_eq_false_iff_ne.mpr c3
  have c3b1 : (a1 != 0) = true := bne_iff_ne.mpr c3
  by_cases c4 : (Int.tmod a0 a1) = 0
  ·
   rw [if_pos c4] at H
   have c4b0 : ((Int.tmod a0 a1) == 0) = true := beq_iff_eq.mpr c4
   have c4b1 : ((Int.tmod a0 a1) != 0) = false := bne_eq_false_iff_eq.mpr c4
   clear c4
   obtain rfl := Option.some.inj H
   go_enter Try.func81, Try.ntmps81
   go_wp2
   go_ret
   exact ⟨rU, dU⟩
  ·
   rw [if_neg c4] at H
   have c4b0 : ((Int.tmod a0 a1) == 0) = false := beq_eq_false_iff_ne.mpr c4
   have c4b1 : ((Int.tmod a0 a1) != 0) = true := bne_iff_ne.mpr c4
   by_cases c5 : ((decide (a0 < 0)) != (decide (a1 < 0))) = true
   ·
    rw [if_pos c5] at H
    have c5b0 : ((decide (a0 < 0)) != (decide (a1 < 0))) = true := c5
    (try (have c5b1 : decide ((decide (a0 < 0)) = (decide (a1 < 0))) = false := by simpa using c5))
    (try (have c5b2 : ((decide (a0 < 0)) == (decide (a1 < 0))) = false := by simpa using c5))
    (try (have c5b3 : ¬ ((decide (a0 < 0)) = (decide (a1 < 0))) := by simpa using c5))
    clear c5
    obtain rfl := Option.some.inj H
    go_enter Try.func81, Try.ntmps81
    go_wp2
    go_ret
    exact ⟨rU, dU⟩
   ·
    rw [if_neg c5] at H
    have c5b0 : ((decide (a0 < 0)) != (decide (a1 < 0))) = false := by simpa using c5
    (try (have c5b1 : decide ((decide (a0 < 0)) = (decide (a1 < 0))) = true := by simpa using c5))
    (try (have c5b2 : ((decide (a0 < 0)) == (decide (a1 < 0))) = true := by simpa using c5))
    clear c5
    obtain rfl := Option.some.inj H
    go_enter Try.func81, Try.ntmps81
    go_wp2
    go_ret
    exact ⟨rU, dU⟩

/-! ### impl_truth: function 82 -/
def impl_truth.f (a0 : Bool) : Option (Int) := if a0 = true then (some 1) else (some 0)
set_option maxHeartbeats 8000000 in
set_option maxRecDepth 100000 in
theorem impl_truth.calls (a0 : Bool) (r : Int) (w : World) (h : impl_truth.f a0 = some r) :
  Calls Try.prog 82 #[.bool a0] w fun e w' => e = .returned (.int .i64 r) ∧ Drawn0 w w' := by
 have H : (if a0 = true then (some 1) else (some 0)) = some r := h
 clear h
 by_cases c2 : a0 = true
 ·
  subst c2
  have H1 : (some 1) = some r := by rw [if_pos rfl] at H; exact H
  clear H
  have H := H1
  clear H1
  obtain rfl := Option.some.inj H
  go_enter Try.func82, Try.ntmps82
  go_wp2
  go_ret
  exact ⟨rU, dU⟩
 ·
  replace c2 := Bool.eq_false_iff.mpr c2
  subst c2
  have H1 : (some 0) = some r := by rw [if_neg (show ¬ (false = true) by decide)] at H; exact H
  clear H
  have H := H1
  clear H1
  obtain rfl := Option.some.inj H
  go_enter Try.func82, Try.ntmps82
  go_wp2
  go_ret
  exact ⟨rU, dU⟩

/-! ### impl_Two: function 22 -/
def impl_Two.j0 : Nat → Int → Int → Int → Bool → Option (Int × Int)
 | 0, _, _, _, _ => none
 | k + 1, x0, x1, x2, x22 => if x22 = true then (some (0, 1)) else (if x0 = 43 then ((impl_NumOk.f (wrap64 (x1 + x2))).bind fun t411 => (if t411 = true then (some (wrap64 (x1 + x2), 0)) else (some (0, 6)))) else (if x0 = 45 then ((impl_NumOk.f (wrap64 (x1 - x2))).bind fun t412 => (if t412 = true then (some (wrap64 (x1 - x2), 0)) else (some (0, 6)))) else (if x0 = 42 then ((impl_product.f x1 x2).bind fun bt413 => (if bt413.2 = true then ((impl_NumOk.f bt413.1).bind fun t415 => (if t415 = true then (some (bt413.1, 0)) else (some (0, 6)))) else (some (0, 6)))) else (if x0 = 37 then (if x2 = 0 then (some (0, 2)) else ((impl_floor.f x1 x2).bind fun t416 => ((impl_NumOk.f t416).bind fun t417 => (if t417 = true then (some (t416, 0)) else (some (0, 6)))))) else (if x0 = 124 then (if x1 = 0 then ((impl_NumOk.f x2).bind fun t418 => (if t418 = true then (some (x2, 0)) else (some (0, 6)))) else ((impl_floor.f x2 x1).bind fun t419 => ((impl_NumOk.f (wrap64 (x2 - (wrap64 (x1 * t419))))).bind fun t420 => (if t420 = true then (some (wrap64 (x2 - (wrap64 (x1 * t419))), 0)) else (some (0, 6)))))) else (if x0 = 38 then ((impl_NumOk.f (mn x1 x2)).bind fun t421 => (if t421 = true then (some (mn x1 x2, 0)) else (some (0, 6)))) else (if x0 = 94 then ((impl_NumOk.f (mx x1 x2)).bind fun t422 => (if t422 = true then (some (mx x1 x2, 0)) else (some (0, 6)))) else (if x0 = 61 then ((impl_truth.f (x1 == x2)).bind fun t423 => ((impl_NumOk.f t423).bind fun t424 => (if t424 = true then (some (t423, 0)) else (some (0, 6))))) else (if x0 = 60 then ((impl_truth.f (decide (x1 < x2))).bind fun t425 => ((impl_NumOk.f t425).bind fun t426 => (if t426 = true then (some (t425, 0)) else (some (0, 6))))) else ((impl_truth.f (decide (x1 > x2))).bind fun t427 => ((impl_NumOk.f t427).bind fun t428 => (if t428 = true then (some (t427, 0)) else (some (0, 6))))))))))))))
def impl_Two.f (k : Nat) (a0 : Int) (a1 : Int) (a2 : Int) : Option (Int × Int) := (impl_twoSign.f k a0).bind fun t408 => (if t408 = true then ((impl_NumOk.f a1).bind fun t409 => (if t409 = true then ((impl_NumOk.f a2).bind fun t410 => (impl_Two.j0 k a0 a1 a2 (!t410))) else (impl_Two.j0 k a0 a1 a2 true))) else (impl_Two.j0 k a0 a1 a2 true))
set_option maxHeartbeats 8000000 in
set_option maxRecDepth 100000 in
theorem impl_Two.calls (k : Nat) (a0 : Int) (a1 : Int) (a2 : Int) (r1 : Int) (r2 : Int) (w : World) (h : impl_Two.f k a0 a1 a2 = some (r1, r2)) :
  Calls Try.prog 22 #[.int .i64 a0, .int .i64 a1, .int .i64 a2] w fun e w' => e = .returned (.tuple #[.int .i64 r1, .int .i64 r2]) ∧ Below w.heap.size w w' := by
 have HB := Aside0.mk (Below.refl w.heap.size w)
 have H : ((impl_twoSign.f k a0).bind fun t408 => (if t408 = true then ((impl_NumOk.f a1).bind fun t409 => (if t409 = true then ((impl_NumOk.f a2).bind fun t410 => (impl_Two.j0 k a0 a1 a2 (!t410))) else (impl_Two.j0 k a0 a1 a2 true))) else (impl_Two.j0 k a0 a1 a2 true))) = some (r1, r2) := h
 clear h
 have HC4 := Aside0.mk H
 clear H
 go_enter Try.func22, Try.ntmps22
 go_upto_region 1 with (fail)
 go_cut [22] (fun v22 wc => ∃ (kq : Nat) (x22_3 : Bool), v22 = .bool x22_3 ∧ Aside0 (impl_Two.j0 kq a0 a1 a2 x22_3 = some (r1, r2)) ∧ Aside0 (kq ≤ k) ∧ Aside0 (Below w.heap.size w wc))
 case first =>
  have H := HC4.out
  clear HC4
  replace H := Option.bind_eq_some_iff.mp H
  obtain ⟨t408, A50, H⟩ := H
  replace H : (if t408 = true then ((impl_NumOk.f a1).bind fun t409 => (if t409 = true then ((impl_NumOk.f a2).bind fun t410 => (impl_Two.j0 k a0 a1 a2 (!t410))) else (impl_Two.j0 k a0 a1 a2 true))) else (impl_Two.j0 k a0 a1 a2 true)) = some (r1, r2) := H
  have A5 := Aside0.mk A50
  clear A50
  by_cases c6 : t408 = true
  ·
   subst c6
   have H1 : ((impl_NumOk.f a1).bind fun t409 => (if t409 = true then ((impl_NumOk.f a2).bind fun t410 => (impl_Two.j0 k a0 a1 a2 (!t410))) else (impl_Two.j0 k a0 a1 a2 true))) = some (r1, r2) := by rw [if_pos rfl] at H; exact H
   clear H
   have H := H1
   clear H1
   replace H := Option.bind_eq_some_iff.mp H
   obtain ⟨t409, A70, H⟩ := H
   replace H : (if t409 = true then ((impl_NumOk.f a2).bind fun t410 => (impl_Two.j0 k a0 a1 a2 (!t410))) else (impl_Two.j0 k a0 a1 a2 true)) = some (r1, r2) := H
   have A7 := Aside0.mk A70
   clear A70
   by_cases c8 : t409 = true
   ·
    subst c8
    have H1 : ((impl_NumOk.f a2).bind fun t410 => (impl_Two.j0 k a0 a1 a2 (!t410))) = some (r1, r2) := by rw [if_pos rfl] at H; exact H
    clear H
    have H := H1
    clear H1
    replace H := Option.bind_eq_some_iff.mp H
    obtain ⟨t410, A90, H⟩ := H
    replace H : (impl_Two.j0 k a0 a1 a2 (!t410)) = some (r1, r2) := H
    have A9 := Aside0.mk A90
    clear A90
    have H' := Aside0.mk H
    clear H
    go_wp2_with (first | ((with_reducible refine gate_callee (f := 72) rfl ?_); refine goesL_ (some 11) rfl rfl Try.func72 (by kernel_rfl) rfl #[.int .i64 a0] rfl lU ?_; (with_reducible refine (impl_twoSign.calls k a0 true _ A5.out).mono ?_); rintro e w' ⟨rfl, ⟨nd, rfl⟩⟩; refine ⟨_, rfl, ?_⟩) | (go_at_call 57; (repeat rw [i64_w]); (with_reducible refine (impl_NumOk.calls a1 true _ A7.out).mono ?_); rintro e w' ⟨rfl, ⟨nd, rfl⟩⟩) | (go_at_call 57; (repeat rw [i64_w]); (with_reducible refine (impl_NumOk.calls a2 t410 _ A9.out).mono ?_); rintro e w' ⟨rfl, ⟨nd, rfl⟩⟩))
    go_meet
    case rel => exact ⟨_, (!t410), (by first | rfl | (simp; done) | (simp [*]; done)), H', ⟨by first | omega | exact Nat.le_refl _⟩, ⟨by exact bU HB.out⟩⟩
   ·
    replace c8 := Bool.eq_false_iff.mpr c8
    subst c8
    have H1 : (impl_Two.j0 k a0 a1 a2 true) = some (r1, r2) := by rw [if_neg (show ¬ (false = true) by decide)] at H; exact H
    clear H
    have H := H1
    clear H1
    have H' := Aside0.mk H
    clear H
    go_wp2_with (first | ((with_reducible refine gate_callee (f := 72) rfl ?_); refine goesL_ (some 11) rfl rfl Try.func72 (by kernel_rfl) rfl #[.int .i64 a0] rfl lU ?_; (with_reducible refine (impl_twoSign.calls k a0 true _ A5.out).mono ?_); rintro e w' ⟨rfl, ⟨nd, rfl⟩⟩; refine ⟨_, rfl, ?_⟩) | (go_at_call 57; (repeat rw [i64_w]); (with_reducible refine (impl_NumOk.calls a1 false _ A7.out).mono ?_); rintro e w' ⟨rfl, ⟨nd, rfl⟩⟩))
    go_meet
    case rel => exact ⟨_, (true), (by first | rfl | (simp; done) | (simp [*]; done)), H', ⟨by first | omega | exact Nat.le_refl _⟩, ⟨by exact bU HB.out⟩⟩
  ·
   replace c6 := Bool.eq_false_iff.mpr c6
   subst c6
   have H1 : (impl_Two.j0 k a0 a1 a2 true) = some (r1, r2) := by rw [if_neg (show ¬ (false = true) by decide)] at H; exact H
   clear H
   have H := H1
   clear H1
   have H' := Aside0.mk H
   clear H
   go_wp2_with (first | ((with_reducible refine gate_callee (f := 72) rfl ?_); refine goesL_ (some 11) rfl rfl Try.func72 (by kernel_rfl) rfl #[.int .i64 a0] rfl lU ?_; (with_reducible refine (impl_twoSign.calls k a0 false _ A5.out).mono ?_); rintro e w' ⟨rfl, ⟨nd, rfl⟩⟩; refine ⟨_, rfl, ?_⟩))
   go_meet
   case rel => exact ⟨_, (true), (by first | rfl | (simp; done) | (simp [*]; done)), H', ⟨by first | omega | exact Nat.le_refl _⟩, ⟨by exact bU HB.out⟩⟩
 case rest =>
  clear HC4
  try clear c2
  try clear p2
  try clear c6
  try clear c7
  try clear c8
  obtain ⟨kq, x22_3, rfl, HA, HJ3, HB⟩ := hcut
  cases kq with
  | zero => exact absurd HA.out (by simp [impl_Two.j0])
  | succ kj3 =>
   have H := HA.out
   clear HA
   simp only [impl_Two.j0] at H
   by_cases c10 : x22_3 = true
   ·
    subst c10
    have H1 : (some (0, 1)) = some (r1, r2) := by rw [if_pos rfl] at H; exact H
    clear H
    have H := H1
    clear H1
    simp only [Option.some.injEq, Prod.mk.injEq] at H
    obtain ⟨rfl, rfl⟩ := H
    go_wp2
    go_ret2
    exact ⟨by first | rfl | (simp [errW_none, errW_some] <;> rfl) | (simp [*, errW_none, errW_some] <;> rfl), by exact bU HB.out⟩
   ·
    replace c10 := Bool.eq_false_iff.mpr c10
    subst c10
    have H1 : (if a0 = 43 then ((impl_NumOk.f (wrap64 (a1 + a2))).bind fun t411 => (if t411 = true then (some (wrap64 (a1 + a2), 0)) else (some (0, 6)))) else (if a0 = 45 then ((impl_NumOk.f (wrap64 (a1 - a2))).bind fun t412 => (if t412 = true then (some (wrap64 (a1 - a2), 0)) else (some (0, 6)))) else (if a0 = 42 then ((impl_product.f a1 a2).bind fun bt413 => (if bt413.2 = true then ((impl_NumOk.f bt413.1).bind fun t415 => (if t415 = true then (some (bt413.1, 0)) else (some (0, 6)))) else (some (0, 6)))) else (if a0 = 37 then (if a2 = 0 then (some (0, 2)) else ((impl_floor.f a1 a2).bind fun t416 => ((impl_NumOk.f t416).bind fun t417 => (if t417 = true then (some (t416, 0)) else (some (0, 6)))))) else (if a0 = 124 then (if a1 = 0 then ((impl_NumOk.f a2).bind fun t418 => (if t418 = true then (some (a2, 0)) else (some (0, 6)))) else ((impl_floor.f a2 a1).bind fun t419 => ((impl_NumOk.f (wrap64 (a2 - (wrap64 (a1 * t419))))).bind fun t420 => (if t420 = true then (some (wrap64 (a2 - (wrap64 (a1 * t419))), 0)) else (some (0, 6)))))) else (if a0 = 38 then ((impl_NumOk.f (mn a1 a2)).bind fun t421 => (if t421 = true then (some (mn a1 a2, 0)) else (some (0, 6)))) else (if a0 = 94 then ((impl_NumOk.f (mx a1 a2)).bind fun t422 => (if t422 = true then (some (mx a1 a2, 0)) else (some (0, 6)))) else (if a0 = 61 then ((impl_truth.f (a1 == a2)).bind fun t423 => ((impl_NumOk.f t423).bind fun t424 => (if t424 = true then (some (t423, 0)) else (some (0, 6))))) else (if a0 = 60 then ((impl_truth.f (decide (a1 < a2))).bind fun t425 => ((impl_NumOk.f t425).bind fun t426 => (if t426 = true then (some (t425, 0)) else (some (0, 6))))) else ((impl_truth.f (decide (a1 > a2))).bind fun t427 => ((impl_NumOk.f t427).bind fun t428 => (if t428 = true then (some (t427, 0)) else (some (0, 6)))))))))))))) = some (r1, r2) := by rw [if_neg (show ¬ (false = true) by decide)] at H; exact H
    clear H
    have H := H1
    clear H1
    by_cases c11 : a0 = 43
    ·
     rw [if_pos c11] at H
     have c11b0 : (a0 == 43) = true := beq_iff_eq.mpr c11
     have c11b1 : (a0 != 43) = false := bne_eq_false_iff_eq.mpr c11
     clear c11
     replace H := Option.bind_eq_some_iff.mp H
     obtain ⟨t411, A120, H⟩ := H
     replace H : (if t411 = true then (some (wrap64 (a1 + a2), 0)) else (some (0, 6))) = some (r1, r2) := H
     have A12 := Aside0.mk A120
     clear A120
     by_cases c13 : t411 = true
     ·
      subst c13
      have H1 : (some (wrap64 (a1 + a2), 0)) = some (r1, r2) := by rw [if_pos rfl] at H; exact H
      clear H
      have H := H1
      clear H1
      simp only [Option.some.injEq, Prod.mk.injEq] at H
      obtain ⟨rfl, rfl⟩ := H
      go_wp2_with (first | (go_at_call 57; (repeat rw [i64_w]); (with_reducible refine (impl_NumOk.calls (wrap64 (a1 + a2)) true _ A12.out).mono ?_); rintro e w' ⟨rfl, ⟨nd, rfl⟩⟩))
      go_ret2
      exact ⟨by first | rfl | (simp [errW_none, errW_some] <;> rfl) | (simp [*, errW_none, errW_some] <;> rfl), by exact bU HB.out⟩
     ·
      replace c13 := Bool.eq_false_iff.mpr c13
      subst c13
      have H1 : (some (0, 6)) = some (r1, r2) := by rw [if_neg (show ¬ (false = true) by decide)] at H; exact H
      clear H
      have H := H1
      clear H1
      simp only [Option.some.injEq, Prod.mk.injEq] at H
      obtain ⟨rfl, rfl⟩ := H
      go_wp2_with (first | (go_at_call 57; (repeat rw [i64_w]); (with_reducible refine (impl_NumOk.calls (wrap64 (a1 + a2)) false _ A12.out).mono ?_); rintro e w' ⟨rfl, ⟨nd, rfl⟩⟩))
      go_ret2
      exact ⟨by first | rfl | (simp [errW_none, errW_some] <;> rfl) | (simp [*, errW_none, errW_some] <;> rfl), by exact bU HB.out⟩
    ·
     rw [if_neg c11] at H
     have c11b0 : (a0 == 43) = false := beq_eq_false_iff_ne.mpr c11
     have c11b1 : (a0 != 43) = true := bne_iff_ne.mpr c11
     by_cases c14 : a0 = 45
     ·
      rw [if_pos c14] at H
      have c14b0 : (a0 == 45) = true := beq_iff_eq.mpr c14
      have c14b1 : (a0 != 45) = false := bne_eq_false_iff_eq.mpr c14
      clear c14
      replace H := Option.bind_eq_some_iff.mp H
      obtain ⟨t412, A150, H⟩ := H
      replace H : (if t412 = true then (some (wrap64 (a1 - a2), 0)) else (some (0, 6))) = some (r1, r2) := H
      have A15 := Aside0.mk A150
      clear A150
      by_cases c16 : t412 = true
      ·
       subst c16
       have H1 : (some (wrap64 (a1 - a2), 0)) = some (r1, r2) := by rw [if_pos rfl] at H; exact H
       clear H
       have H := H1
       clear H1
       simp only [Option.some.injEq, Prod.mk.injEq] at H
       obtain ⟨rfl, rfl⟩ := H
       go_wp2_with (first | (go_at_call 57; (repeat rw [i64_w]); (with_reducible refine (impl_NumOk.calls (wrap64 (a1 - a2)) true _ A15.out).mono ?_); rintro e w' ⟨rfl, ⟨nd, rfl⟩⟩))
       go_ret2
       exact ⟨by first | rfl | (simp [errW_none, errW_some] <;> rfl) | (simp [*, errW_none, errW_some] <;> rfl), by exact bU HB.out⟩
      ·
       replace c16 := Bool.eq_false_iff.mpr c16
       subst c16
       have H1 : (some (0, 6)) = some (r1, r2) := by rw [if_neg (show ¬ (false = true) by decide)] at H; exact H
       clear H
       have H := H1
       clear H1
       simp only [Option.some.injEq, Prod.mk.injEq] at H
       obtain ⟨rfl, rfl⟩ := H
       go_wp2_with (first | (go_at_call 57; (repeat rw [i64_w]); (with_reducible refine (impl_NumOk.calls (wrap64 (a1 - a2)) false _ A15.out).mono ?_); rintro e w' ⟨rfl, ⟨nd, rfl⟩⟩))
       go_ret2
       exact ⟨by first | rfl | (simp [errW_none, errW_some] <;> rfl) | (simp [*, errW_none, errW_some] <;> rfl), by exact bU HB.out⟩
     ·
      rw [if_neg c14] at H
      have c14b0 : (a0 == 45) = false := beq_eq_false_iff_ne.mpr c14
      have c14b1 : (a0 != 45) = true := bne_iff_ne.mpr c14
      by_cases c17 : a0 = 42
      ·
       rw [if_pos c17] at H
       have c17b0 : (a0 == 42) = true := beq_iff_eq.mpr c17
       have c17b1 : (a0 != 42) = false := bne_eq_false_iff_eq.mpr c17
       clear c17
       replace H := Option.bind_eq_some_iff.mp H
       obtain ⟨⟨t413, t414⟩, A180, H⟩ := H
       replace H : (if t414 = true then ((impl_NumOk.f t413).bind fun t415 => (if t415 = true then (some (t413, 0)) else (some (0, 6)))) else (some (0, 6))) = some (r1, r2) := H
       have A18 := Aside0.mk A180
       clear A180
       by_cases c19 : t414 = true
       ·
        subst c19
        have H1 : ((impl_NumOk.f t413).bind fun t415 => (if t415 = true then (some (t413, 0)) else (some (0, 6)))) = some (r1, r2) := by rw [if_pos rfl] at H; exact H
        clear H
        have H := H1
        clear H1
        replace H := Option.bind_eq_some_iff.mp H
        obtain ⟨t415, A200, H⟩ := H
        replace H : (if t415 = true then (some (t413, 0)) else (some (0, 6))) = some (r1, r2) := H
        have A20 := Aside0.mk A200
        clear A200
        by_cases c21 : t415 = true
        ·
         subst c21
         have H1 : (some (t413, 0)) = some (r1, r2) := by rw [if_pos rfl] at H; exact H
         clear H
         have H := H1
         clear H1
         simp only [Option.some.injEq, Prod.mk.injEq] at H
         obtain ⟨rfl, rfl⟩ := H
         go_wp2_with (first | ((with_reducible refine gate_callee (f := 80) rfl ?_); refine goesL_ (some 43) rfl rfl Try.func80 (by kernel_rfl) rfl #[.int .i64 a1, .int .i64 a2] rfl lU ?_; (with_reducible refine (impl_product.calls a1 a2 t413 true _ A18.out).mono ?_); rintro e w22 ⟨rfl, hb⟩; refine ⟨_, rfl, ?_⟩; replace HB := Aside0.mk (below_step (bU HB.out) hb); (try clear hb); (try clear hb2); (try clear hk); (try clear hi)) | (go_at_call 57; (repeat rw [i64_w]); (with_reducible refine (impl_NumOk.calls t413 true _ A20.out).mono ?_); rintro e w' ⟨rfl, ⟨nd, rfl⟩⟩))
         go_ret2
         exact ⟨by first | rfl | (simp [errW_none, errW_some] <;> rfl) | (simp [*, errW_none, errW_some] <;> rfl), by exact bU HB.out⟩
        ·
         replace c21 := Bool.eq_false_iff.mpr c21
         subst c21
         have H1 : (some (0, 6)) = some (r1, r2) := by rw [if_neg (show ¬ (false = true) by decide)] at H; exact H
         clear H
         have H := H1
         clear H1
         simp only [Option.some.injEq, Prod.mk.injEq] at H
         obtain ⟨rfl, rfl⟩ := H
         go_wp2_with (first | ((with_reducible refine gate_callee (f := 80) rfl ?_); refine goesL_ (some 43) rfl rfl Try.func80 (by kernel_rfl) rfl #[.int .i64 a1, .int .i64 a2] rfl lU ?_; (with_reducible refine (impl_product.calls a1 a2 t413 true _ A18.out).mono ?_); rintro e w23 ⟨rfl, hb⟩; refine ⟨_, rfl, ?_⟩; replace HB := Aside0.mk (below_step (bU HB.out) hb); (try clear hb); (try clear hb2); (try clear hk); (try clear hi)) | (go_at_call 57; (repeat rw [i64_w]); (with_reducible refine (impl_NumOk.calls t413 false _ A20.out).mono ?_); rintro e w' ⟨rfl, ⟨nd, rfl⟩⟩))
         go_ret2
         exact ⟨by first | rfl | (simp [errW_none, errW_some] <;> rfl) | (simp [*, errW_none, errW_some] <;> rfl), by exact bU HB.out⟩
       ·
        replace c19 := Bool.eq_false_iff.mpr c19
        subst c19
        have H1 : (some (0, 6)) = some (r1, r2) := by rw [if_neg (show ¬ (false = true) by decide)] at H; exact H
        clear H
        have H := H1
        clear H1
        simp only [Option.some.injEq, Prod.mk.injEq] at H
        obtain ⟨rfl, rfl⟩ := H
        go_wp2_with (first | ((with_reducible refine gate_callee (f := 80) rfl ?_); refine goesL_ (some 43) rfl rfl Try.func80 (by kernel_rfl) rfl #[.int .i64 a1, .int .i64 a2] rfl lU ?_; (with_reducible refine (impl_product.calls a1 a2 t413 false _ A18.out).mono ?_); rintro e w24 ⟨rfl, hb⟩; refine ⟨_, rfl, ?_⟩; replace HB := Aside0.mk (below_step (bU HB.out) hb); (try clear hb); (try clear hb2); (try clear hk); (try clear hi)))
        go_ret2
        exact ⟨by first | rfl | (simp [errW_none, errW_some] <;> rfl) | (simp [*, errW_none, errW_some] <;> rfl), by exact bU HB.out⟩
      ·
       rw [if_neg c17] at H
       have c17b0 : (a0 == 42) = false := beq_eq_false_iff_ne.mpr c17
       have c17b1 : (a0 != 42) = true := bne_iff_ne.mpr c17
       by_cases c25 : a0 = 37
       ·
        rw [if_pos c25] at H
        have c25b0 : (a0 == 37) = true := beq_iff_eq.mpr c25
        have c25b1 : (a0 != 37) = false := bne_eq_false_iff_eq.mpr c25
        clear c25
        by_cases c26 : a2 = 0
        ·
         rw [if_pos c26] at H
         have c26b0 : (a2 == 0) = true := beq_iff_eq.mpr c26
         have c26b1 : (a2 != 0) = false := bne_eq_false_iff_eq.mpr c26
         clear c26
         simp only [Option.some.injEq, Prod.mk.injEq] at H
         obtain ⟨rfl, rfl⟩ := H
         go_wp2
         go_ret2
         exact ⟨by first | rfl | (simp [errW_none, errW_some] <;> rfl) | (simp [*, errW_none, errW_some] <;> rfl), by exact bU HB.out⟩
        ·
         rw [if_neg c26] at H
         have c26b0 : (a2 == 0) = false := beq_eq_false_iff_ne.mpr c26
         have c26b1 : (a2 != 0) = true := bne_iff_ne.mpr c26
         replace H := Option.bind_eq_some_iff.mp H
         obtain ⟨t416, A270, H⟩ := H
         replace H : ((impl_NumOk.f t416).bind fun t417 => (if t417 = true then (some (t416, 0)) else (some (0, 6)))) = some (r1, r2) := H
         have A27 := Aside0.mk A270
         clear A270
         replace H := Option.bind_eq_some_iff.mp H
         obtain ⟨t417, A280, H⟩ := H
         replace H : (if t417 = true then (some (t416, 0)) else (some (0, 6))) = some (r1, r2) := H
         have A28 := Aside0.mk A280
         clear A280
         by_cases c29 : t417 = true
         ·
          subst c29
          have H1 : (some (t416, 0)) = some (r1, r2) := by rw [if_pos rfl] at H; exact H
          clear H
          have H := H1
          clear H1
          simp only [Option.some.injEq, Prod.mk.injEq] at H
          obtain ⟨rfl, rfl⟩ := H
          go_wp2_with (first | ((with_reducible refine gate_callee (f := 81) rfl ?_); refine goesL_ (some 52) rfl rfl Try.func81 (by kernel_rfl) rfl #[.int .i64 a1, .int .i64 a2] rfl lU ?_; (with_reducible refine (impl_floor.calls a1 a2 t416 _ A27.out).mono ?_); rintro e w' ⟨rfl, ⟨nd, rfl⟩⟩; refine ⟨_, rfl, ?_⟩) | (go_at_call 57; (repeat rw [i64_w]); (with_reducible refine (impl_NumOk.calls t416 true _ A28.out).mono ?_); rintro e w' ⟨rfl, ⟨nd, rfl⟩⟩))
          go_ret2
          exact ⟨by first | rfl | (simp [errW_none, errW_some] <;> rfl) | (simp [*, errW_none, errW_some] <;> rfl), by exact bU HB.out⟩
         ·
          replace c29 := Bool.eq_false_iff.mpr c29
          subst c29
          have H1 : (some (0, 6)) = some (r1, r2) := by rw [if_neg (show ¬ (false = true) by decide)] at H; exact H
          clear H
          have H := H1
          clear H1
          simp only [Option.some.injEq, Prod.mk.injEq] at H
          obtain ⟨rfl, rfl⟩ := H
          go_wp2_with (first | ((with_reducible refine gate_callee (f := 81) rfl ?_); refine goesL_ (some 52) rfl rfl Try.func81 (by kernel_rfl) rfl #[.int .i64 a1, .int .i64 a2] rfl lU ?_; (with_reducible refine (impl_floor.calls a1 a2 t416 _ A27.out).mono ?_); rintro e w' ⟨rfl, ⟨nd, rfl⟩⟩; refine ⟨_, rfl, ?_⟩) | (go_at_call 57; (repeat rw [i64_w]); (with_reducible refine (impl_NumOk.calls t416 false _ A28.out).mono ?_); rintro e w' ⟨rfl, ⟨nd, rfl⟩⟩))
          go_ret2
          exact ⟨by first | rfl | (simp [errW_none, errW_some] <;> rfl) | (simp [*, errW_none, errW_some] <;> rfl), by exact bU HB.out⟩
       ·
        rw [if_neg c25] at H
        have c25b0 : (a0 == 37) = false := beq_eq_false_iff_ne.mpr c25
        have c25b1 : (a0 != 37) = true := bne_iff_ne.mpr c25
        by_cases c30 : a0 = 124
        ·
         rw [if_pos c30] at H
         have c30b0 : (a0 == 124) = true := beq_iff_eq.mpr c30
         have c30b1 : (a0 != 124) = false := bne_eq_false_iff_eq.mpr c30
         clear c30
         by_cases c31 : a1 = 0
         ·
          rw [if_pos c31] at H
          have c31b0 : (a1 == 0) = true := beq_iff_eq.mpr c31
          have c31b1 : (a1 != 0) = false := bne_eq_false_iff_eq.mpr c31
          clear c31
          replace H := Option.bind_eq_some_iff.mp H
          obtain ⟨t418, A320, H⟩ := H
          replace H : (if t418 = true then (some (a2, 0)) else (some (0, 6))) = some (r1, r2) := H
          have A32 := Aside0.mk A320
          clear A320
          by_cases c33 : t418 = true
          ·
           subst c33
           have H1 : (some (a2, 0)) = some (r1, r2) := by rw [if_pos rfl] at H; exact H
           clear H
           have H := H1
           clear H1
           simp only [Option.some.injEq, Prod.mk.injEq] at H
           obtain ⟨rfl, rfl⟩ := H
           go_wp2_with (first | (go_at_call 57; (repeat rw [i64_w]); (with_reducible refine (impl_NumOk.calls a2 true _ A32.out).mono ?_); rintro e w' ⟨rfl, ⟨nd, rfl⟩⟩))
           go_ret2
           exact ⟨by first | rfl | (simp [errW_none, errW_some] <;> rfl) | (simp [*, errW_none, errW_some] <;> rfl), by exact bU HB.out⟩
          ·
           replace c33 := Bool.eq_false_iff.mpr c33
           subst c33
           have H1 : (some (0, 6)) = some (r1, r2) := by rw [if_neg (show ¬ (false = true) by decide)] at H; exact H
           clear H
           have H := H1
           clear H1
           simp only [Option.some.injEq, Prod.mk.injEq] at H
           obtain ⟨rfl, rfl⟩ := H
           go_wp2_with (first | (go_at_call 57; (repeat rw [i64_w]); (with_reducible refine (impl_NumOk.calls a2 false _ A32.out).mono ?_); rintro e w' ⟨rfl, ⟨nd, rfl⟩⟩))
           go_ret2
           exact ⟨by first | rfl | (simp [errW_none, errW_some] <;> rfl) | (simp [*, errW_none, errW_some] <;> rfl), by exact bU HB.out⟩
         ·
          rw [if_neg c31] at H
          have c31b0 : (a1 == 0) = false := beq_eq_false_iff_ne.mpr c31
          have c31b1 : (a1 != 0) = true := bne_iff_ne.mpr c31
          replace H := Option.bind_eq_some_iff.mp H
          obtain ⟨t419, A340, H⟩ := H
          replace H : ((impl_NumOk.f (wrap64 (a2 - (wrap64 (a1 * t419))))).bind fun t420 => (if t420 = true then (some (wrap64 (a2 - (wrap64 (a1 * t419))), 0)) else (some (0, 6)))) = some (r1, r2) := H
          have A34 := Aside0.mk A340
          clear A340
          replace H := Option.bind_eq_some_iff.mp H
          obtain ⟨t420, A350, H⟩ := H
          replace H : (if t420 = true then (some (wrap64 (a2 - (wrap64 (a1 * t419))), 0)) else (some (0, 6))) = some (r1, r2) := H
          have A35 := Aside0.mk A350
          clear A350
          by_cases c36 : t420 = true
          ·
           subst c36
           have H1 : (some (wrap64 (a2 - (wrap64 (a1 * t419))), 0)) = some (r1, r2) := by rw [if_pos rfl] at H; exact H
           clear H
           have H := H1
           clear H1
           simp only [Option.some.injEq, Prod.mk.injEq] at H
           obtain ⟨rfl, rfl⟩ := H
           go_wp2_with (first | ((with_reducible refine gate_callee (f := 81) rfl ?_); refine goesL_ (some 62) rfl rfl Try.func81 (by kernel_rfl) rfl #[.int .i64 a2, .int .i64 a1] rfl lU ?_; (with_reducible refine (impl_floor.calls a2 a1 t419 _ A34.out).mono ?_); rintro e w' ⟨rfl, ⟨nd, rfl⟩⟩; refine ⟨_, rfl, ?_⟩) | (go_at_call 57; (repeat rw [i64_w]); (with_reducible refine (impl_NumOk.calls (wrap64 (a2 - (wrap64 (a1 * t419)))) true _ A35.out).mono ?_); rintro e w' ⟨rfl, ⟨nd, rfl⟩⟩))
           go_ret2
           exact ⟨by first | rfl | (simp [errW_none, errW_some] <;> rfl) | (simp [*, errW_none, errW_some] <;> rfl), by exact bU HB.out⟩
          ·
           replace c36 := Bool.eq_false_iff.mpr c36
           subst c36
           have H1 : (some (0, 6)) = some (r1, r2) := by rw [if_neg (show ¬ (false = true) by decide)] at H; exact H
           clear H
           have H := H1
           clear H1
           simp only [Option.some.injEq, Prod.mk.injEq] at H
           obtain ⟨rfl, rfl⟩ := H
           go_wp2_with (first | ((with_reducible refine gate_callee (f := 81) rfl ?_); refine goesL_ (some 62) rfl rfl Try.func81 (by kernel_rfl) rfl #[.int .i64 a2, .int .i64 a1] rfl lU ?_; (with_reducible refine (impl_floor.calls a2 a1 t419 _ A34.out).mono ?_); rintro e w' ⟨rfl, ⟨nd, rfl⟩⟩; refine ⟨_, rfl, ?_⟩) | (go_at_call 57; (repeat rw [i64_w]); (with_reducible refine (impl_NumOk.calls (wrap64 (a2 - (wrap64 (a1 * t419)))) false _ A35.out).mono ?_); rintro e w' ⟨rfl, ⟨nd, rfl⟩⟩))
           go_ret2
           exact ⟨by first | rfl | (simp [errW_none, errW_some] <;> rfl) | (simp [*, errW_none, errW_some] <;> rfl), by exact bU HB.out⟩
        ·
         rw [if_neg c30] at H
         have c30b0 : (a0 == 124) = false := beq_eq_false_iff_ne.mpr c30
         have c30b1 : (a0 != 124) = true := bne_iff_ne.mpr c30
         by_cases c37 : a0 = 38
         ·
          rw [if_pos c37] at H
          have c37b0 : (a0 == 38) = true := beq_iff_eq.mpr c37
          have c37b1 : (a0 != 38) = false := bne_eq_false_iff_eq.mpr c37
          clear c37
          obtain ⟨ji38, hji38⟩ : ∃ j_ : Int, (mn a1 a2) = j_ := ⟨_, rfl⟩
          replace H : ((impl_NumOk.f (ji38)).bind fun t421 => (if t421 = true then (some (ji38, 0)) else (some (0, 6)))) = some (r1, r2) := by first | (rw [hji38] at H; exact H) | (simp only [hji38] at H ⊢; exact H)
          have hji38_ : (if a2 < a1 then a2 else a1) = ji38 := hji38
          replace H := Option.bind_eq_some_iff.mp H
          obtain ⟨t421, A390, H⟩ := H
          replace H : (if t421 = true then (some (ji38, 0)) else (some (0, 6))) = some (r1, r2) := H
          have A39 := Aside0.mk A390
          clear A390
          by_cases c40 : t421 = true
          ·
           subst c40
           have H1 : (some (ji38, 0)) = some (r1, r2) := by rw [if_pos rfl] at H; exact H
           clear H
           have H := H1
           clear H1
           simp only [Option.some.injEq, Prod.mk.injEq] at H
           obtain ⟨rfl, rfl⟩ := H
           go_wp2_with (first | (go_at_call 57; (repeat rw [i64_w]); (with_reducible refine (impl_NumOk.calls ji38 true _ A39.out).mono ?_); rintro e w' ⟨rfl, ⟨nd, rfl⟩⟩))
           go_ret2
           exact ⟨by first | rfl | (simp [errW_none, errW_some] <;> rfl) | (simp only [← hji38]; first | rfl | (simp [errW_none, errW_some] <;> rfl)) | (simp [*, errW_none, errW_some] <;> rfl), by exact bU HB.out⟩
          ·
           replace c40 := Bool.eq_false_iff.mpr c40
           subst c40
           have H1 : (some (0, 6)) = some (r1, r2) := by rw [if_neg (show ¬ (false = true) by decide)] at H; exact H
           clear H
           have H := H1
           clear H1
           simp only [Option.some.injEq, Prod.mk.injEq] at H
           obtain ⟨rfl, rfl⟩ := H
           go_wp2_with (first | (go_at_call 57; (repeat rw [i64_w]); (with_reducible refine (impl_NumOk.calls ji38 false _ A39.out).mono ?_); rintro e w' ⟨rfl, ⟨nd, rfl⟩⟩))
           go_ret2
           exact ⟨by first | rfl | (simp [errW_none, errW_some] <;> rfl) | (simp only [← hji38]; first | rfl | (simp [errW_none, errW_some] <;> rfl)) | (simp [*, errW_none, errW_some] <;> rfl), by exact bU HB.out⟩
         ·
          rw [if_neg c37] at H
          have c37b0 : (a0 == 38) = false := beq_eq_false_iff_ne.mpr c37
          have c37b1 : (a0 != 38) = true := bne_iff_ne.mpr c37
          by_cases c41 : a0 = 94
          ·
           rw [if_pos c41] at H
           have c41b0 : (a0 == 94) = true := beq_iff_eq.mpr c41
           have c41b1 : (a0 != 94) = false := bne_eq_false_iff_eq.mpr c41
           clear c41
           obtain ⟨ji42, hji42⟩ : ∃ j_ : Int, (mx a1 a2) = j_ := ⟨_, rfl⟩
           replace H : ((impl_NumOk.f (ji42)).bind fun t422 => (if t422 = true then (some (ji42, 0)) else (some (0, 6)))) = some (r1, r2) := by first | (rw [hji42] at H; exact H) | (simp only [hji42] at H ⊢; exact H)
           have hji42_ : (if a1 < a2 then a2 else a1) = ji42 := hji42
           replace H := Option.bind_eq_some_iff.mp H
           obtain ⟨t422, A430, H⟩ := H
           replace H : (if t422 = true then (some (ji42, 0)) else (some (0, 6))) = some (r1, r2) := H
           have A43 := Aside0.mk A430
           clear A430
           by_cases c44 : t422 = true
           ·
            subst c44
            have H1 : (some (ji42, 0)) = some (r1, r2) := by rw [if_pos rfl] at H; exact H
            clear H
            have H := H1
            clear H1
            simp only [Option.some.injEq, Prod.mk.injEq] at H
            obtain ⟨rfl, rfl⟩ := H
            go_wp2_with (first | (go_at_call 57; (repeat rw [i64_w]); (with_reducible refine (impl_NumOk.calls ji42 true _ A43.out).mono ?_); rintro e w' ⟨rfl, ⟨nd, rfl⟩⟩))
            go_ret2
            exact ⟨by first | rfl | (simp [errW_none, errW_some] <;> rfl) | (simp only [← hji42]; first | rfl | (simp [errW_none, errW_some] <;> rfl)) | (simp [*, errW_none, errW_some] <;> rfl), by exact bU HB.out⟩
           ·
            replace c44 := Bool.eq_false_iff.mpr c44
            subst c44
            have H1 : (some (0, 6)) = some (r1, r2) := by rw [if_neg (show ¬ (false = true) by decide)] at H; exact H
            clear H
            have H := H1
            clear H1
            simp only [Option.some.injEq, Prod.mk.injEq] at H
            obtain ⟨rfl, rfl⟩ := H
            go_wp2_with (first | (go_at_call 57; (repeat rw [i64_w]); (with_reducible refine (impl_NumOk.calls ji42 false _ A43.out).mono ?_); rintro e w' ⟨rfl, ⟨nd, rfl⟩⟩))
            go_ret2
            exact ⟨by first | rfl | (simp [errW_none, errW_some] <;> rfl) | (simp only [← hji42]; first | rfl | (simp [errW_none, errW_some] <;> rfl)) | (simp [*, errW_none, errW_some] <;> rfl), by exact bU HB.out⟩
          ·
           rw [if_neg c41] at H
           have c41b0 : (a0 == 94) = false := beq_eq_false_iff_ne.mpr c41
           have c41b1 : (a0 != 94) = true := bne_iff_ne.mpr c41
           by_cases c45 : a0 = 61
           ·
            rw [if_pos c45] at H
            have c45b0 : (a0 == 61) = true := beq_iff_eq.mpr c45
            have c45b1 : (a0 != 61) = false := bne_eq_false_iff_eq.mpr c45
            clear c45
            replace H := Option.bind_eq_some_iff.mp H
            obtain ⟨t423, A460, H⟩ := H
            replace H : ((impl_NumOk.f t423).bind fun t424 => (if t424 = true then (some (t423, 0)) else (some (0, 6)))) = some (r1, r2) := H
            have A46 := Aside0.mk A460
            clear A460
            replace H := Option.bind_eq_some_iff.mp H
            obtain ⟨t424, A470, H⟩ := H
            replace H : (if t424 = true then (some (t423, 0)) else (some (0, 6))) = some (r1, r2) := H
            have A47 := Aside0.mk A470
            clear A470
            by_cases c48 : t424 = true
            ·
             subst c48
             have H1 : (some (t423, 0)) = some (r1, r2) := by rw [if_pos rfl] at H; exact H
             clear H
             have H := H1
             clear H1
             simp only [Option.some.injEq, Prod.mk.injEq] at H
             obtain ⟨rfl, rfl⟩ := H
             go_wp2_with (first | ((with_reducible refine gate_callee (f := 82) rfl ?_); refine goesL_ (some 80) rfl rfl Try.func82 (by kernel_rfl) rfl #[.bool (a1 == a2)] rfl lU ?_; (with_reducible refine (impl_truth.calls (a1 == a2) t423 _ A46.out).mono ?_); rintro e w' ⟨rfl, ⟨nd, rfl⟩⟩; refine ⟨_, rfl, ?_⟩) | (go_at_call 57; (repeat rw [i64_w]); (with_reducible refine (impl_NumOk.calls t423 true _ A47.out).mono ?_); rintro e w' ⟨rfl, ⟨nd, rfl⟩⟩))
             go_ret2
             exact ⟨by first | rfl | (simp [errW_none, errW_some] <;> rfl) | (simp [*, errW_none, errW_some] <;> rfl), by exact bU HB.out⟩
            ·
             replace c48 := Bool.eq_false_iff.mpr c48
             subst c48
             have H1 : (some (0, 6)) = some (r1, r2) := by rw [if_neg (show ¬ (false = true) by decide)] at H; exact H
             clear H
             have H := H1
             clear H1
             simp only [Option.some.injEq, Prod.mk.injEq] at H
             obtain ⟨rfl, rfl⟩ := H
             go_wp2_with (first | ((with_reducible refine gate_callee (f := 82) rfl ?_); refine goesL_ (some 80) rfl rfl Try.func82 (by kernel_rfl) rfl #[.bool (a1 == a2)] rfl lU ?_; (with_reducible refine (impl_truth.calls (a1 == a2) t423 _ A46.out).mono ?_); rintro e w' ⟨rfl, ⟨nd, rfl⟩⟩; refine ⟨_, rfl, ?_⟩) | (go_at_call 57; (repeat rw [i64_w]); (with_reducible refine (impl_NumOk.calls t423 false _ A47.out).mono ?_); rintro e w' ⟨rfl, ⟨nd, rfl⟩⟩))
             go_ret2
             exact ⟨by first | rfl | (simp [errW_none, errW_some] <;> rfl) | (simp [*, errW_none, errW_some] <;> rfl), by exact bU HB.out⟩
           ·
            rw [if_neg c45] at H
            have c45b0 : (a0 == 61) = false := beq_eq_false_iff_ne.mpr c45
            have c45b1 : (a0 != 61) = true := bne_iff_ne.mpr c45
            by_cases c49 : a0 = 60
            ·
             rw [if_pos c49] at H
             have c49b0 : (a0 == 60) = true := beq_iff_eq.mpr c49
             have c49b1 : (a0 != 60) = false := bne_eq_false_iff_eq.mpr c49
             clear c49
             replace H := Option.bind_eq_some_iff.mp H
             obtain ⟨t425, A500, H⟩ := H
             replace H : ((impl_NumOk.f t425).bind fun t426 => (if t426 = true then (some (t425, 0)) else (some (0, 6)))) = some (r1, r2) := H
             have A50 := Aside0.mk A500
             clear A500
             replace H := Option.bind_eq_some_iff.mp H
             obtain ⟨t426, A510, H⟩ := H
             replace H : (if t426 = true then (some (t425, 0)) else (some (0, 6))) = some (r1, r2) := H
             have A51 := Aside0.mk A510
             clear A510
             by_cases c52 : t426 = true
             ·
              subst c52
              have H1 : (some (t425, 0)) = some (r1, r2) := by rw [if_pos rfl] at H; exact H
              clear H
              have H := H1
              clear H1
              simp only [Option.some.injEq, Prod.mk.injEq] at H
              obtain ⟨rfl, rfl⟩ := H
              go_wp2_with (first | ((with_reducible refine gate_callee (f := 82) rfl ?_); refine goesL_ (some 86) rfl rfl Try.func82 (by kernel_rfl) rfl #[.bool (decide (a1 < a2))] rfl lU ?_; (with_reducible refine (impl_truth.calls (decide (a1 < a2)) t425 _ A50.out).mono ?_); rintro e w' ⟨rfl, ⟨nd, rfl⟩⟩; refine ⟨_, rfl, ?_⟩) | (go_at_call 57; (repeat rw [i64_w]); (with_reducible refine (impl_NumOk.calls t425 true _ A51.out).mono ?_); rintro e w' ⟨rfl, ⟨nd, rfl⟩⟩))
              go_ret2
              exact ⟨by first | rfl | (simp [errW_none, errW_some] <;> rfl) | (simp [*, errW_none, errW_some] <;> rfl), by exact bU HB.out⟩
             ·
              replace c52 := Bool.eq_false_iff.mpr c52
              subst c52
              have H1 : (some (0, 6)) = some (r1, r2) := by rw [if_neg (show ¬ (false = true) by decide)] at H; exact H
              clear H
              have H := H1
              clear H1
              simp only [Option.some.injEq, Prod.mk.injEq] at H
              obtain ⟨rfl, rfl⟩ := H
              go_wp2_with (first | ((with_reducible refine gate_callee (f := 82) rfl ?_); refine goesL_ (some 86) rfl rfl Try.func82 (by kernel_rfl) rfl #[.bool (decide (a1 < a2))] rfl lU ?_; (with_reducible refine (impl_truth.calls (decide (a1 < a2)) t425 _ A50.out).mono ?_); rintro e w' ⟨rfl, ⟨nd, rfl⟩⟩; refine ⟨_, rfl, ?_⟩) | (go_at_call 57; (repeat rw [i64_w]); (with_reducible refine (impl_NumOk.calls t425 false _ A51.out).mono ?_); rintro e w' ⟨rfl, ⟨nd, rfl⟩⟩))
              go_ret2
              exact ⟨by first | rfl | (simp [errW_none, errW_some] <;> rfl) | (simp [*, errW_none, errW_some] <;> rfl), by exact bU HB.out⟩
            ·
             rw [if_neg c49] at H
             have c49b0 : (a0 == 60) = false := beq_eq_false_iff_ne.mpr c49
             have c49b1 : (a0 != 60) = true := bne_iff_ne.mpr c49
             replace H := Option.bind_eq_some_iff.mp H
             obtain ⟨t427, A530, H⟩ := H
             replace H : ((impl_NumOk.f t427).bind fun t428 => (if t428 = true then (some (t427, 0)) else (some (0, 6)))) = some (r1, r2) := H
             have A53 := Aside0.mk A530
             clear A530
             replace H := Option.bind_eq_some_iff.mp H
             obtain ⟨t428, A540, H⟩ := H
             replace H : (if t428 = true then (some (t427, 0)) else (some (0, 6))) = some (r1, r2) := H
             have A54 := Aside0.mk A540
             clear A540
             by_cases c55 : t428 = true
             ·
              subst c55
              have H1 : (some (t427, 0)) = some (r1, r2) := by rw [if_pos rfl] at H; exact H
              clear H
              have H := H1
              clear H1
              simp only [Option.some.injEq, Prod.mk.injEq] at H
              obtain ⟨rfl, rfl⟩ := H
              go_wp2_with (first | ((with_reducible refine gate_callee (f := 82) rfl ?_); refine goesL_ (some 27) rfl rfl Try.func82 (by kernel_rfl) rfl #[.bool (decide (a1 > a2))] rfl lU ?_; (with_reducible refine (impl_truth.calls (decide (a1 > a2)) t427 _ A53.out).mono ?_); rintro e w' ⟨rfl, ⟨nd, rfl⟩⟩; refine ⟨_, rfl, ?_⟩) | (go_at_call 57; (repeat rw [i64_w]); (with_reducible refine (impl_NumOk.calls t427 true _ A54.out).mono ?_); rintro e w' ⟨rfl, ⟨nd, rfl⟩⟩))
              go_ret2
              exact ⟨by first | rfl | (simp [errW_none, errW_some] <;> rfl) | (simp [*, errW_none, errW_some] <;> rfl), by exact bU HB.out⟩
             ·
              replace c55 := Bool.eq_false_iff.mpr c55
              subst c55
              have H1 : (some (0, 6)) = some (r1, r2) := by rw [if_neg (show ¬ (false = true) by decide)] at H; exact H
              clear H
              have H := H1
              clear H1
              simp only [Option.some.injEq, Prod.mk.injEq] at H
              obtain ⟨rfl, rfl⟩ := H
              go_wp2_with (first | ((with_reducible refine gate_callee (f := 82) rfl ?_); refine goesL_ (some 27) rfl rfl Try.func82 (by kernel_rfl) rfl #[.bool (decide (a1 > a2))] rfl lU ?_; (with_reducible refine (impl_truth.calls (decide (a1 > a2)) t427 _ A53.out).mono ?_); rintro e w' ⟨rfl, ⟨nd, rfl⟩⟩; refine ⟨_, rfl, ?_⟩) | (go_at_call 57; (repeat rw [i64_w]); (with_reducible refine (impl_NumOk.calls t427 false _ A54.out).mono ?_); rintro e w' ⟨rfl, ⟨nd, rfl⟩⟩))
              go_ret2
              exact ⟨by first | rfl | (simp [errW_none, errW_some] <;> rfl) | (simp [*, errW_none, errW_some] <;> rfl), by exact bU HB.out⟩

end Go.Proofs.Ytlaikodjcjfeiaa.PFnEach
