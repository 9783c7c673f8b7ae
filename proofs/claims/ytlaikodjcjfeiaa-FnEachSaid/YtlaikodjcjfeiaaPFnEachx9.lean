/- The walk of what a law reaches, for the law's row: written by a program of this session; it has no condition of its own. -/
import Derived.Test.YtlaikodjcjfeiaaPFnEachx0
import Derived.Test.YtlaikodjcjfeiaaQ
import Derived.Test.YtlaikodjcjfeiaaPFnEachx8
namespace Go.Proofs.Ytlaikodjcjfeiaa.PFnEach
open Go.RowKit Go.Proofs.YtlaikodjcjfeiaaW.PrintWords Go.Proofs.YtlaikodjcjfeiaaW.PrintLast Go.Proofs.YtlaikodjcjfeiaaW.PrintMore Go.Proofs.YtlaikodjcjfeiaaQ
attribute [local go_sem] max2_int min2_int max_two min_two max_three min_three max_four min_four   -- for this text's walks alone
set_option linter.unusedVariables false
set_option linter.unusedSimpArgs false

/-! ### spec_l1Times: function 103 -/
def spec_l1Times.j0 : Nat → Int → Int → Bool → Option (Int × Bool)
 | 0, _, _, _ => none
 | k + 1, x0, x1, x11 => if x11 = true then (some (0, true)) else ((spec_l1Max.f x0 (wrap64 (-x0))).bind fun t488 => ((spec_l1Max.f x1 (wrap64 (-x1))).bind fun t489 => (if t489 = 0 then (none) else (if t488 > (wrap64 (Int.tdiv (1000000000000 : Int) t489)) then (some (0, false)) else (some (wrap64 (x0 * x1), true))))))
def spec_l1Times.f (k : Nat) (a0 : Int) (a1 : Int) : Option (Int × Bool) := if a0 = 0 then (spec_l1Times.j0 k a0 a1 true) else (spec_l1Times.j0 k a0 a1 (a1 == 0))
set_option maxHeartbeats 8000000 in
set_option maxRecDepth 100000 in
theorem spec_l1Times.calls (k : Nat) (a0 : Int) (a1 : Int) (r1 : Int) (r2 : Bool) (w : World) (h : spec_l1Times.f k a0 a1 = some (r1, r2)) :
  Calls Try.prog 103 #[.int .i64 a0, .int .i64 a1] w fun e w' => e = .returned (.tuple #[.int .i64 r1, .bool r2]) ∧ Drawn0 w w' := by
 have H : (if a0 = 0 then (spec_l1Times.j0 k a0 a1 true) else (spec_l1Times.j0 k a0 a1 (a1 == 0))) = some (r1, r2) := h
 clear h
 have HC3 := Aside0.mk H
 clear H
 go_enter Try.func103, Try.ntmps103
 go_upto_region 1 with (fail)
 go_cut [11] (fun v11 wc => ∃ (kq : Nat) (x11_2 : Bool), v11 = .bool x11_2 ∧ Aside0 (spec_l1Times.j0 kq a0 a1 x11_2 = some (r1, r2)) ∧ Aside0 (kq ≤ k) ∧ Drawn0 w wc)
 case first =>
  have H := HC3.out
  clear HC3
  by_cases c4 : a0 = 0
  ·
   rw [if_pos c4] at H
   have c4b0 : (a0 == 0) = true := beq_iff_eq.mpr c4
   have c4b1 : (a0 != 0) = false := bne_eq_false_iff_eq.mpr c4
   clear c4
   (first | rw [c4b0] | (simp only [i64_w, i32_w]; rw [c4b0]) | skip)
   have H' := Aside0.mk H
   clear H
   go_wp2
   go_meet
   case rel => exact ⟨_, (true), (by first | rfl | (simp; done) | (simp [*]; done)), H', ⟨by first | omega | exact Nat.le_refl _⟩, by repeat (first | exact Drawn0.refl _ | apply Drawn0.step)⟩
  ·
   rw [if_neg c4] at H
   have c4b0 : (a0 == 0) = false := beq_eq_false_iff_ne.mpr c4
   have c4b1 : (a0 != 0) = true := bne_iff_ne.mpr c4
   (first | rw [c4b0] | (simp only [i64_w, i32_w]; rw [c4b0]) | skip)
   have H' := Aside0.mk H
   clear H
   go_wp2
   go_meet
   case rel => exact ⟨_, ((a1 == 0)), (by first | rfl | (simp; done) | (simp [*]; done)), H', ⟨by first | omega | exact Nat.le_refl _⟩, by repeat (first | exact Drawn0.refl _ | apply Drawn0.step)⟩
 case rest =>
  clear HC3
  try clear c1
  try clear p2
  try clear c4
  try clear c4b0
  try clear c4b1
  obtain ⟨kq, x11_2, rfl, HA, HJ2, ⟨mc2, rfl⟩⟩ := hcut
  cases kq with
  | zero => exact absurd HA.out (by simp [spec_l1Times.j0])
  | succ kj2 =>
   have H := HA.out
   clear HA
   simp only [spec_l1Times.j0] at H
   by_cases c5 : x11_2 = true
   ·
    subst c5
    have H1 : (some (0, true)) = some (r1, r2) := by rw [if_pos rfl] at H; exact H
    clear H
    have H := H1
    clear H1
    simp only [Option.some.injEq, Prod.mk.injEq] at H
    obtain ⟨rfl, rfl⟩ := H
    go_wp2
    go_ret2
    exact ⟨rU, dU⟩
   ·
    replace c5 := Bool.eq_false_iff.mpr c5
    subst c5
    have H1 : ((spec_l1Max.f a0 (wrap64 (-a0))).bind fun t488 => ((spec_l1Max.f a1 (wrap64 (-a1))).bind fun t489 => (if t489 = 0 then (none) else (if t488 > (wrap64 (Int.tdiv (1000000000000 : Int) t489)) then (some (0, false)) else (some (wrap64 (a0 * a1), true)))))) = some (r1, r2) := by rw [if_neg (show ¬ (false = true) by decide)] at H; exact H
    clear H
    have H := H1
    clear H1
    replace H := Option.bind_eq_some_iff.mp H
    obtain ⟨t488, A60, H⟩ := H
    replace H : ((spec_l1Max.f a1 (wrap64 (-a1))).bind fun t489 => (if t489 = 0 then (none) else (if t488 > (wrap64 (Int.tdiv (1000000000000 : Int) t489)) then (some (0, false)) else (some (wrap64 (a0 * a1), true))))) = some (r1, r2) := H
    have A6 := Aside0.mk A60
    clear A60
    replace H := Option.bind_eq_some_iff.mp H
    obtain ⟨t489, A70, H⟩ := H
    replace H : (if t489 = 0 then (none) else (if t488 > (wrap64 (Int.tdiv (1000000000000 : Int) t489)) then (some (0, false)) else (some (wrap64 (a0 * a1), true)))) = some (r1, r2) := H
    have A7 := Aside0.mk A70
    clear A70
    by_cases c8 : t489 = 0
    ·
     rw [if_pos c8] at H
     exact absurd H (by simp)
    ·
     rw [if_neg c8] at H
     have c8b0 : (t489 == 0) = false := beq_eq_false_iff_ne.mpr c8
     have c8b1 : (t489 != 0) = true := bne_iff_ne.mpr c8
     by_cases c9 : t488 > (wrap64 (Int.tdiv (1000000000000 : Int) t489))
     ·
      rw [if_pos c9] at H
      have c9b0 : decide ((wrap64 (Int.tdiv (1000000000000 : Int) t489)) < t488) = true := decide_eq_true c9
      clear c9
      simp only [Option.some.injEq, Prod.mk.injEq] at H
      obtain ⟨rfl, rfl⟩ := H
      go_wp2_with (first | ((with_reducible refine gate_callee (f := 92) rfl ?_); refine goesL_ (some 15) rfl rfl Try.func92 (by kernel_rfl) rfl #[.int .i64 a0, .int .i64 (wrap64 (-a0))] rfl lU ?_; (with_reducible refine (spec_l1Max.calls a0 (wrap64 (-a0)) t488 _ A6.out).mono ?_); rintro e w' ⟨rfl, ⟨nd, rfl⟩⟩; refine ⟨_, rfl, ?_⟩) | ((with_reducible refine gate_callee (f := 92) rfl ?_); refine goesL_ (some 19) rfl rfl Try.func92 (by kernel_rfl) rfl #[.int .i64 a1, .int .i64 (wrap64 (-a1))] rfl lU ?_; (with_reducible refine (spec_l1Max.calls a1 (wrap64 (-a1)) t489 _ A7.out).mono ?_); rintro e w' ⟨rfl, ⟨nd, rfl⟩⟩; refine ⟨_, rfl, ?_⟩))
      go_ret2
      exact ⟨rU, dU⟩
     ·
      rw [if_neg c9] at H
      have c9b0 : decide ((wrap64 (Int.tdiv (1000000000000 : Int) t489)) < t488) = false := decide_eq_false c9
      clear c9
      simp only [Option.some.injEq, Prod.mk.injEq] at H
      obtain ⟨rfl, rfl⟩ := H
      go_wp2_with (first | ((with_reducible refine gate_callee (f := 92) rfl ?_); refine goesL_ (some 15) rfl rfl Try.func92 (by kernel_rfl) rfl #[.int .i64 a0, .int .i64 (wrap64 (-a0))] rfl lU ?_; (with_reducible refine (spec_l1Max.calls a0 (wrap64 (-a0)) t488 _ A6.out).mono ?_); rintro e w' ⟨rfl, ⟨nd, rfl⟩⟩; refine ⟨_, rfl, ?_⟩) | ((with_reducible refine gate_callee (f := 92) rfl ?_); refine goesL_ (some 19) rfl rfl Try.func92 (by kernel_rfl) rfl #[.int .i64 a1, .int .i64 (wrap64 (-a1))] rfl lU ?_; (with_reducible refine (spec_l1Max.calls a1 (wrap64 (-a1)) t489 _ A7.out).mono ?_); rintro e w' ⟨rfl, ⟨nd, rfl⟩⟩; refine ⟨_, rfl, ?_⟩))
      go_ret2
      exact ⟨rU, dU⟩

/-! ### spec_l1Floor: function 104 -/
def spec_l1Floor.f (a0 : Int) (a1 : Int) : Option (Int) := if a1 = 0 then (none) else (if (Int.tmod a0 a1) = 0 then (some (wrap64 (Int.tdiv a0 a1))) else (if ((decide (a0 < 0)) != (decide (a1 < 0))) = true then (some (wrap64 ((wrap64 (Int.tdiv a0 a1)) - 1))) else (some (wrap64 (Int.tdiv a0 a1)))))
set_option maxHeartbeats 8000000 in
set_option maxRecDepth 100000 in
theorem spec_l1Floor.calls (a0 : Int) (a1 : Int) (r : Int) (w : World) (h : spec_l1Floor.f a0 a1 = some r) :
  Calls Try.prog 104 #[.int .i64 a0, .int .i64 a1] w fun e w' => e = .returned (.int .i64 r) ∧ Drawn0 w w' := by
 have H : (if a1 = 0 then (none) else (if (Int.tmod a0 a1) = 0 then (some (wrap64 (Int.tdiv a0 a1))) else (if ((decide (a0 < 0)) != (decide (a1 < 0))) = true then (some (wrap64 ((wrap64 (Int.tdiv a0 a1)) - 1))) else (some (wrap64 (Int.tdiv a0 a1)))))) = some r := h
 clear h
 by_cases c3 : a1 = 0
 ·
  rw [if_pos c3] at H
  exact absurd H (by simp)
 ·
  rw [if_neg c3] at H
  have c3b0 : (a1 == 0) = false := beq_eq_false_iff_ne.mpr c3
  have c3b1 : (a1 != 0) = true := bne_iff_ne.mpr c3
  by_cases c4 : (Int.tmod a0 a1) = 0
  ·
   rw [if_pos c4] at H
   have c4b0 : ((Int.tmod a0 a1) == 0) = true := beq_iff_eq.mpr c4
   have c4b1 : ((Int.tmod a0 a1) != 0) = false := bne_eq_false_iff_eq.mpr c4
   clear c4
   obtain rfl := Option.some.inj H
   go_enter Try.func104, Try.ntmps104
   go_wp2
   go_ret
   exact ⟨rU, dU⟩
  ·
   rw [if_neg c4] at H
   have c4b0 : ((Int.tmod a0 a1) == 0) = false := beq_eq_false_iff_ne.mpr c4
   have c4b1 : ((Int.tmod a0 a1) != 0) = true := bne_iff_ne.mpr c4
   by_cases c5 : ((decide (a0 < 0)) != (decide (a1 < 0))) = true
   ·
    rw [if_pos c5] at H
    have c5b0 : ((decide (a0 < 0)) != (decide (a1 < 0))) = true := c5
    (try (have c5b1 : decide ((decide (a0 < 0)) = (decide (a1 < 0))) = false := by simpa using c5))
    (try (have c5b2 : ((decide (a0 < 0)) == (decide (a1 < 0))) = false := by simpa using c5))
    (try (have c5b3 : ¬ ((decide (a0 < 0)) = (decide (a1 < 0))) := by simpa using c5))
    clear c5
    obtain rfl := Option.some.inj H
    go_enter Try.func104, Try.ntmps104
    go_wp2
    go_ret
    exact ⟨rU, dU⟩
   ·
    rw [if_neg c5] at H
    have c5b0 : ((decide (a0 < 0)) != (decide (a1 < 0))) = false := by simpa using c5
    (try (have c5b1 : decide ((decide (a0 < 0)) = (decide (a1 < 0))) = true := by simpa using c5))
    (try (have c5b2 : ((decide (a0 < 0)) == (decide (a1 < 0))) = true := by simpa using c5))
    clear c5
    obtain rfl := Option.some.inj H
    go_enter Try.func104, Try.ntmps104
    go_wp2
    go_ret
    exact ⟨rU, dU⟩

/-! ### spec_l1Min: function 105 -/
def spec_l1Min.f (a0 : Int) (a1 : Int) : Option (Int) := if a0 < a1 then (some a0) else (some a1)
set_option maxHeartbeats 8000000 in
set_option maxRecDepth 100000 in
theorem spec_l1Min.calls (a0 : Int) (a1 : Int) (r : Int) (w : World) (h : spec_l1Min.f a0 a1 = some r) :
  Calls Try.prog 105 #[.int .i64 a0, .int .i64 a1] w fun e w' => e = .returned (.int .i64 r) ∧ Drawn0 w w' := by
 have H : (if a0 < a1 then (some a0) else (some a1)) = some r := h
 clear h
 by_cases c3 : a0 < a1
 ·
  rw [if_pos c3] at H
  have c3b0 : decide (a0 < a1) = true := decide_eq_true c3
  clear c3
  obtain rfl := Option.some.inj H
  go_enter Try.func105, Try.ntmps105
  go_wp2
  go_ret
  exact ⟨rU, dU⟩
 ·
  rw [if_neg c3] at H
  have c3b0 : decide (a0 < a1) = false := decide_eq_false c3
  clear c3
  obtain rfl := Option.some.inj H
  go_enter Try.func105, Try.ntmps105
  go_wp2
  go_ret
  exact ⟨rU, dU⟩

/-! ### spec_l1Bit: function 106 -/
def spec_l1Bit.f (a0 : Bool) : Option (Int) := if a0 = true then (some 1) else (some 0)
set_option maxHeartbeats 8000000 in
set_option maxRecDepth 100000 in
theorem spec_l1Bit.calls (a0 : Bool) (r : Int) (w : World) (h : spec_l1Bit.f a0 = some r) :
  Calls Try.prog 106 #[.bool a0] w fun e w' => e = .returned (.int .i64 r) ∧ Drawn0 w w' := by
 have H : (if a0 = true then (some 1) else (some 0)) = some r := h
 clear h
 by_cases c2 : a0 = true
 ·
  subst c2
  have H1 : (some 1) = some r := by rw [if_pos rfl] at H; exact H
  clear H
  have H := H1
  clear H1
  obtain rfl := Option.some.inj H
  go_enter Try.func106, Try.ntmps106
  go_wp2
  go_ret
  exact ⟨rU, dU⟩
 ·
  replace c2 := Bool.eq_false_iff.mpr c2
  subst c2
  have H1 : (some 0) = some r := by rw [if_neg (show ¬ (false = true) by decide)] at H; exact H
  clear H
  have H := H1
  clear H1
  obtain rfl := Option.some.inj H
  go_enter Try.func106, Try.ntmps106
  go_wp2
  go_ret
  exact ⟨rU, dU⟩

/-! ### spec_Two: function 68 -/
def spec_Two.j0 : Nat → Int → Int → Int → Bool → Option (Int × Int)
 | 0, _, _, _, _ => none
 | k + 1, x0, x1, x2, x23 => if x23 = true then (some (0, 1)) else (if x0 = 43 then ((spec_NumOk.f (wrap64 (x1 + x2))).bind fun t493 => (if t493 = true then (some (wrap64 (x1 + x2), 0)) else (some (0, 6)))) else (if x0 = 45 then ((spec_NumOk.f (wrap64 (x1 - x2))).bind fun t494 => (if t494 = true then (some (wrap64 (x1 - x2), 0)) else (some (0, 6)))) else (if x0 = 42 then ((spec_l1Times.f k x1 x2).bind fun bt495 => (if bt495.2 = true then ((spec_NumOk.f bt495.1).bind fun t497 => (if t497 = true then (some (bt495.1, 0)) else (some (0, 6)))) else (some (0, 6)))) else (if x0 = 37 then (if x2 = 0 then (some (0, 2)) else ((spec_l1Floor.f x1 x2).bind fun t498 => ((spec_NumOk.f t498).bind fun t499 => (if t499 = true then (some (t498, 0)) else (some (0, 6)))))) else (if x0 = 124 then (if x1 = 0 then ((spec_NumOk.f x2).bind fun t500 => (if t500 = true then (some (x2, 0)) else (some (0, 6)))) else ((spec_l1Floor.f x2 x1).bind fun t501 => ((spec_NumOk.f (wrap64 (x2 - (wrap64 (x1 * t501))))).bind fun t502 => (if t502 = true then (some (wrap64 (x2 - (wrap64 (x1 * t501))), 0)) else (some (0, 6)))))) else (if x0 = 38 then ((spec_l1Min.f x1 x2).bind fun t503 => ((spec_NumOk.f t503).bind fun t504 => (if t504 = true then (some (t503, 0)) else (some (0, 6))))) else (if x0 = 94 then ((spec_l1Max.f x1 x2).bind fun t505 => ((spec_NumOk.f t505).bind fun t506 => (if t506 = true then (some (t505, 0)) else (some (0, 6))))) else (if x0 = 61 then ((spec_l1Bit.f (x1 == x2)).bind fun t507 => ((spec_NumOk.f t507).bind fun t508 => (if t508 = true then (some (t507, 0)) else (some (0, 6))))) else (if x0 = 60 then ((spec_l1Bit.f (decide (x1 < x2))).bind fun t509 => ((spec_NumOk.f t509).bind fun t510 => (if t510 = true then (some (t509, 0)) else (some (0, 6))))) else (if x0 = 62 then ((spec_l1Bit.f (decide (x1 > x2))).bind fun t511 => ((spec_NumOk.f t511).bind fun t512 => (if t512 = true then (some (t511, 0)) else (some (0, 6))))) else ((spec_NumOk.f 0).bind fun t513 => (if t513 = true then (some (0, 0)) else (some (0, 6))))))))))))))
def spec_Two.f (k : Nat) (a0 : Int) (a1 : Int) (a2 : Int) : Option (Int × Int) := (spec_l1Sign2.f a0).bind fun t490 => (if t490 = true then ((spec_NumOk.f a1).bind fun t491 => (if t491 = true then ((spec_NumOk.f a2).bind fun t492 => (spec_Two.j0 k a0 a1 a2 (!t492))) else (spec_Two.j0 k a0 a1 a2 true))) else (spec_Two.j0 k a0 a1 a2 true))
set_option maxHeartbeats 8000000 in
set_option maxRecDepth 100000 in
theorem spec_Two.calls (k : Nat) (a0 : Int) (a1 : Int) (a2 : Int) (r1 : Int) (r2 : Int) (w : World) (h : spec_Two.f k a0 a1 a2 = some (r1, r2)) :
  Calls Try.prog 68 #[.int .i64 a0, .int .i64 a1, .int .i64 a2] w fun e w' => e = .returned (.tuple #[.int .i64 r1, .int .i64 r2]) ∧ Drawn0 w w' := by
 have H : ((spec_l1Sign2.f a0).bind fun t490 => (if t490 = true then ((spec_NumOk.f a1).bind fun t491 => (if t491 = true then ((spec_NumOk.f a2).bind fun t492 => (spec_Two.j0 k a0 a1 a2 (!t492))) else (spec_Two.j0 k a0 a1 a2 true))) else (spec_Two.j0 k a0 a1 a2 true))) = some (r1, r2) := h
 clear h
 have HC4 := Aside0.mk H
 clear H
 go_enter Try.func68, Try.ntmps68
 go_upto_region 1 with (fail)
 go_cut [23] (fun v23 wc => ∃ (kq : Nat) (x23_3 : Bool), v23 = .bool x23_3 ∧ Aside0 (spec_Two.j0 kq a0 a1 a2 x23_3 = some (r1, r2)) ∧ Aside0 (kq ≤ k) ∧ Drawn0 w wc)
 case first =>
  have H := HC4.out
  clear HC4
  replace H := Option.bind_eq_some_iff.mp H
  obtain ⟨t490, A50, H⟩ := H
  replace H : (if t490 = true then ((spec_NumOk.f a1).bind fun t491 => (if t491 = true then ((spec_NumOk.f a2).bind fun t492 => (spec_Two.j0 k a0 a1 a2 (!t492))) else (spec_Two.j0 k a0 a1 a2 true))) else (spec_Two.j0 k a0 a1 a2 true)) = some (r1, r2) := H
  have A5 := Aside0.mk A50
  clear A50
  by_cases c6 : t490 = true
  ·
   subst c6
   have H1 : ((spec_NumOk.f a1).bind fun t491 => (if t491 = true then ((spec_NumOk.f a2).bind fun t492 => (spec_Two.j0 k a0 a1 a2 (!t492))) else (spec_Two.j0 k a0 a1 a2 true))) = some (r1, r2) := by rw [if_pos rfl] at H; exact H
   clear H
   have H := H1
   clear H1
   replace H := Option.bind_eq_some_iff.mp H
   obtain ⟨t491, A70, H⟩ := H
   replace H : (if t491 = true then ((spec_NumOk.f a2).bind fun t492 => (spec_Two.j0 k a0 a1 a2 (!t492))) else (spec_Two.j0 k a0 a1 a2 true)) = some (r1, r2) := H
   have A7 := Aside0.mk A70
   clear A70
   by_cases c8 : t491 = true
   ·
    subst c8
    have H1 : ((spec_NumOk.f a2).bind fun t492 => (spec_Two.j0 k a0 a1 a2 (!t492))) = some (r1, r2) := by rw [if_pos rfl] at H; exact H
    clear H
    have H := H1
    clear H1
    replace H := Option.bind_eq_some_iff.mp H
    obtain ⟨t492, A90, H⟩ := H
    replace H : (spec_Two.j0 k a0 a1 a2 (!t492)) = some (r1, r2) := H
    have A9 := Aside0.mk A90
    clear A90
    have H' := Aside0.mk H
    clear H
    go_wp2_with (first | ((with_reducible refine gate_callee (f := 75) rfl ?_); refine goesL_ (some 12) rfl rfl Try.func75 (by kernel_rfl) rfl #[.int .i64 a0] rfl lU ?_; (with_reducible refine (spec_l1Sign2.calls a0 true _ A5.out).mono ?_); rintro e w' ⟨rfl, ⟨nd, rfl⟩⟩; refine ⟨_, rfl, ?_⟩) | (go_at_call 56; (repeat rw [i64_w]); (with_reducible refine (spec_NumOk.calls a1 true _ A7.out).mono ?_); rintro e w' ⟨rfl, ⟨nd, rfl⟩⟩) | (go_at_call 56; (repeat rw [i64_w]); (with_reducible refine (spec_NumOk.calls a2 t492 _ A9.out).mono ?_); rintro e w' ⟨rfl, ⟨nd, rfl⟩⟩))
    go_meet
    case rel => exact ⟨_, (!t492), (by first | rfl | (simp; done) | (simp [*]; done)), H', ⟨by first | omega | exact Nat.le_refl _⟩, by repeat (first | exact Drawn0.refl _ | apply Drawn0.step)⟩
   ·
    replace c8 := Bool.eq_false_iff.mpr c8
    subst c8
    have H1 : (spec_Two.j0 k a0 a1 a2 true) = some (r1, r2) := by rw [if_neg (show ¬ (false = true) by decide)] at H; exact H
    clear H
    have H := H1
    clear H1
    have H' := Aside0.mk H
    clear H
    go_wp2_with (first | ((with_reducible refine gate_callee (f := 75) rfl ?_); refine goesL_ (some 12) rfl rfl Try.func75 (by kernel_rfl) rfl #[.int .i64 a0] rfl lU ?_; (with_reducible refine (spec_l1Sign2.calls a0 true _ A5.out).mono ?_); rintro e w' ⟨rfl, ⟨nd, rfl⟩⟩; refine ⟨_, rfl, ?_⟩) | (go_at_call 56; (repeat rw [i64_w]); (with_reducible refine (spec_NumOk.calls a1 false _ A7.out).mono ?_); rintro e w' ⟨rfl, ⟨nd, rfl⟩⟩))
    go_meet
    case rel => exact ⟨_, (true), (by first | rfl | (simp; done) | (simp [*]; done)), H', ⟨by first | omega | exact Nat.le_refl _⟩, by repeat (first | exact Drawn0.refl _ | apply Drawn0.step)⟩
  ·
   replace c6 := Bool.eq_false_iff.mpr c6
   subst c6
   have H1 : (spec_Two.j0 k a0 a1 a2 true) = some (r1, r2) := by rw [if_neg (show ¬ (false = true) by decide)] at H; exact H
   clear H
   have H := H1
   clear H1
   have H' := Aside0.mk H
   clear H
   go_wp2_with (first | ((with_reducible refine gate_callee (f := 75) rfl ?_); refine goesL_ (some 12) rfl rfl Try.func75 (by kernel_rfl) rfl #[.int .i64 a0] rfl lU ?_; (with_reducible refine (spec_l1Sign2.calls a0 false _ A5.out).mono ?_); rintro e w' ⟨rfl, ⟨nd, rfl⟩⟩; refine ⟨_, rfl, ?_⟩))
   go_meet
   case rel => exact ⟨_, (true), (by first | rfl | (simp; done) | (simp [*]; done)), H', ⟨by first | omega | exact Nat.le_refl _⟩, by repeat (first | exact Drawn0.refl _ | apply Drawn0.step)⟩
 case rest =>
  clear HC4
  try clear p2
  try clear c6
  try clear c7
  try clear c8
  obtain ⟨kq, x23_3, rfl, HA, HJ3, ⟨mc3, rfl⟩⟩ := hcut
  cases kq with
  | zero => exact absurd HA.out (by simp [spec_Two.j0])
  | succ kj3 =>
   have H := HA.out
   clear HA
   simp only [spec_Two.j0] at H
   by_cases c10 : x23_3 = true
   ·
    subst c10
    have H1 : (some (0, 1)) = some (r1, r2) := by rw [if_pos rfl] at H; exact H
    clear H
    have H := H1
    clear H1
    simp only [Option.some.injEq, Prod.mk.injEq] at H
    obtain ⟨rfl, rfl⟩ := H
    go_wp2
    go_ret2
    exact ⟨rU, dU⟩
   ·
    replace c10 := Bool.eq_false_iff.mpr c10
    subst c10
    have H1 : (if a0 = 43 then ((spec_NumOk.f (wrap64 (a1 + a2))).bind fun t493 => (if t493 = true then (some (wrap64 (a1 + a2), 0)) else (some (0, 6)))) else (if a0 = 45 then ((spec_NumOk.f (wrap64 (a1 - a2))).bind fun t494 => (if t494 = true then (some (wrap64 (a1 - a2), 0)) else (some (0, 6)))) else (if a0 = 42 then ((spec_l1Times.f kj3 a1 a2).bind fun bt495 => (if bt495.2 = true then ((spec_NumOk.f bt495.1).bind fun t497 => (if t497 = true then (some (bt495.1, 0)) else (some (0, 6)))) else (some (0, 6)))) else (if a0 = 37 then (if a2 = 0 then (some (0, 2)) else ((spec_l1Floor.f a1 a2).bind fun t498 => ((spec_NumOk.f t498).bind fun t499 => (if t499 = true then (some (t498, 0)) else (some (0, 6)))))) else (if a0 = 124 then (if a1 = 0 then ((spec_NumOk.f a2).bind fun t500 => (if t500 = true then (some (a2, 0)) else (some (0, 6)))) else ((spec_l1Floor.f a2 a1).bind fun t501 => ((spec_NumOk.f (wrap64 (a2 - (wrap64 (a1 * t501))))).bind fun t502 => (if t502 = true then (some (wrap64 (a2 - (wrap64 (a1 * t501))), 0)) else (some (0, 6)))))) else (if a0 = 38 then ((spec_l1Min.f a1 a2).bind fun t503 => ((spec_NumOk.f t503).bind fun t504 => (if t504 = true then (some (t503, 0)) else (some (0, 6))))) else (if a0 = 94 then ((spec_l1Max.f a1 a2).bind fun t505 => ((spec_NumOk.f t505).bind fun t506 => (if t506 = true then (some (t505, 0)) else (some (0, 6))))) else (if a0 = 61 then ((spec_l1Bit.f (a1 == a2)).bind fun t507 => ((spec_NumOk.f t507).bind fun t508 => (if t508 = true then (some (t507, 0)) else (some (0, 6))))) else (if a0 = 60 then ((spec_l1Bit.f (decide (a1 < a2))).bind fun t509 => ((spec_NumOk.f t509).bind fun t510 => (if t510 = true then (some (t509, 0)) else (some (0, 6))))) else (if a0 = 62 then ((spec_l1Bit.f (decide (a1 > a2))).bind fun t511 => ((spec_NumOk.f t511).bind fun t512 => (if t512 = true then (some (t511, 0)) else (some (0, 6))))) else ((spec_NumOk.f 0).bind fun t513 => (if t513 = true then (some (0, 0)) else (some (0, 6)))))))))))))) = some (r1, r2) := by rw [if_neg (show ¬ (false = true) by decide)] at H; exact H
    clear H
    have H := H1
    clear H1
    by_cases c11 : a0 = 43
    ·
     rw [if_pos c11] at H
     have c11b0 : (a0 == 43) = true := beq_iff_eq.mpr c11
     have c11b1 : (a0 != 43) = false := bne_eq_false_iff_eq.mpr c11
     clear c11
     replace H := Option.bind_eq_some_iff.mp H
     obtain ⟨t493, A120, H⟩ := H
     replace H : (if t493 = true then (some (wrap64 (a1 + a2), 0)) else (some (0, 6))) = some (r1, r2) := H
     have A12 := Aside0.mk A120
     clear A120
     by_cases c13 : t493 = true
     ·
      subst c13
      have H1 : (some (wrap64 (a1 + a2), 0)) = some (r1, r2) := by rw [if_pos rfl] at H; exact H
      clear H
      have H := H1
      clear H1
      simp only [Option.some.injEq, Prod.mk.injEq] at H
      obtain ⟨rfl, rfl⟩ := H
      go_wp2_with (first | ((with_reducible refine gate_callee (f := 56) rfl ?_); refine goesL_ (some 94) rfl rfl Try.func56 (by kernel_rfl) rfl #[.int .i64 (wrap64 (a1 + a2))] rfl lU ?_; (with_reducible refine (spec_NumOk.calls (wrap64 (a1 + a2)) true _ A12.out).mono ?_); rintro e w' ⟨rfl, ⟨nd, rfl⟩⟩; refine ⟨_, rfl, ?_⟩))
      go_ret2
      exact ⟨rU, dU⟩
     ·
      replace c13 := Bool.eq_false_iff.mpr c13
      subst c13
      have H1 : (some (0, 6)) = some (r1, r2) := by rw [if_neg (show ¬ (false = true) by decide)] at H; exact H
      clear H
      have H := H1
      clear H1
      simp only [Option.some.injEq, Prod.mk.injEq] at H
      obtain ⟨rfl, rfl⟩ := H
      go_wp2_with (first | ((with_reducible refine gate_callee (f := 56) rfl ?_); refine goesL_ (some 94) rfl rfl Try.func56 (by kernel_rfl) rfl #[.int .i64 (wrap64 (a1 + a2))] rfl lU ?_; (with_reducible refine (spec_NumOk.calls (wrap64 (a1 + a2)) false _ A12.out).mono ?_); rintro e w' ⟨rfl, ⟨nd, rfl⟩⟩; refine ⟨_, rfl, ?_⟩))
      go_ret2
      exact ⟨rU, dU⟩
    ·
     rw [if_neg c11] at H
     have c11b0 : (a0 == 43) = false := beq_eq_false_iff_ne.mpr c11
     have c11b1 : (a0 != 43) = true := bne_iff_ne.mpr c11
     by_cases c14 : a0 = 45
     ·
      rw [if_pos c14] at H
      have c14b0 : (a0 == 45) = true := beq_iff_eq.mpr c14
      have c14b1 : (a0 != 45) = false := bne_eq_false_iff_eq.mpr c14
      clear c14
      replace H := Option.bind_eq_some_iff.mp H
      obtain ⟨t494, A150, H⟩ := H
      replace H : (if t494 = true then (some (wrap64 (a1 - a2), 0)) else (some (0, 6))) = some (r1, r2) := H
      have A15 := Aside0.mk A150
      clear A150
      by_cases c16 : t494 = true
      ·
       subst c16
       have H1 : (some (wrap64 (a1 - a2), 0)) = some (r1, r2) := by rw [if_pos rfl] at H; exact H
       clear H
       have H := H1
       clear H1
       simp only [Option.some.injEq, Prod.mk.injEq] at H
       obtain ⟨rfl, rfl⟩ := H
       go_wp2_with (first | ((with_reducible refine gate_callee (f := 56) rfl ?_); refine goesL_ (some 94) rfl rfl Try.func56 (by kernel_rfl) rfl #[.int .i64 (wrap64 (a1 - a2))] rfl lU ?_; (with_reducible refine (spec_NumOk.calls (wrap64 (a1 - a2)) true _ A15.out).mono ?_); rintro e w' ⟨rfl, ⟨nd, rfl⟩⟩; refine ⟨_, rfl, ?_⟩))
       go_ret2
       exact ⟨rU, dU⟩
      ·
       replace c16 := Bool.eq_false_iff.mpr c16
       subst c16
       have H1 : (some (0, 6)) = some (r1, r2) := by rw [if_neg (show ¬ (false = true) by decide)] at H; exact H
       clear H
       have H := H1
       clear H1
       simp only [Option.some.injEq, Prod.mk.injEq] at H
       obtain ⟨rfl, rfl⟩ := H
       go_wp2_with (first | ((with_reducible refine gate_callee (f := 56) rfl ?_); refine goesL_ (some 94) rfl rfl Try.func56 (by kernel_rfl) rfl #[.int .i64 (wrap64 (a1 - a2))] rfl lU ?_; (with_reducible refine (spec_NumOk.calls (wrap64 (a1 - a2)) false _ A15.out).mono ?_); rintro e w' ⟨rfl, ⟨nd, rfl⟩⟩; refine ⟨_, rfl, ?_⟩))
       go_ret2
       exact ⟨rU, dU⟩
     ·
      rw [if_neg c14] at H
      have c14b0 : (a0 == 45) = false := beq_eq_false_iff_ne.mpr c14
      have c14b1 : (a0 != 45) = true := bne_iff_ne.mpr c14
      by_cases c17 : a0 = 42
      ·
       rw [if_pos c17] at H
       have c17b0 : (a0 == 42) = true := beq_iff_eq.mpr c17
       have c17b1 : (a0 != 42) = false := bne_eq_false_iff_eq.mpr c17
       clear c17
       replace H := Option.bind_eq_some_iff.mp H
       obtain ⟨⟨t495, t496⟩, A180, H⟩ := H
       replace H : (if t496 = true then ((spec_NumOk.f t495).bind fun t497 => (if t497 = true then (some (t495, 0)) else (some (0, 6)))) else (some (0, 6))) = some (r1, r2) := H
       have A18 := Aside0.mk A180
       clear A180
       by_cases c19 : t496 = true
       ·
        subst c19
        have H1 : ((spec_NumOk.f t495).bind fun t497 => (if t497 = true then (some (t495, 0)) else (some (0, 6)))) = some (r1, r2) := by rw [if_pos rfl] at H; exact H
        clear H
        have H := H1
        clear H1
        replace H := Option.bind_eq_some_iff.mp H
        obtain ⟨t497, A200, H⟩ := H
        replace H : (if t497 = true then (some (t495, 0)) else (some (0, 6))) = some (r1, r2) := H
        have A20 := Aside0.mk A200
        clear A200
        by_cases c21 : t497 = true
        ·
         subst c21
         have H1 : (some (t495, 0)) = some (r1, r2) := by rw [if_pos rfl] at H; exact H
         clear H
         have H := H1
         clear H1
         simp only [Option.some.injEq, Prod.mk.injEq] at H
         obtain ⟨rfl, rfl⟩ := H
         go_wp2_with (first | ((with_reducible refine gate_callee (f := 103) rfl ?_); refine goesL_ (some 40) rfl rfl Try.func103 (by kernel_rfl) rfl #[.int .i64 a1, .int .i64 a2] rfl lU ?_; (with_reducible refine (spec_l1Times.calls kj3 a1 a2 t495 true _ A18.out).mono ?_); rintro e w' ⟨rfl, ⟨nd, rfl⟩⟩; refine ⟨_, rfl, ?_⟩) | ((with_reducible refine gate_callee (f := 56) rfl ?_); refine goesL_ (some 94) rfl rfl Try.func56 (by kernel_rfl) rfl #[.int .i64 t495] rfl lU ?_; (with_reducible refine (spec_NumOk.calls t495 true _ A20.out).mono ?_); rintro e w' ⟨rfl, ⟨nd, rfl⟩⟩; refine ⟨_, rfl, ?_⟩))
         go_ret2
         exact ⟨rU, dU⟩
        ·
         replace c21 := Bool.eq_false_iff.mpr c21
         subst c21
         have H1 : (some (0, 6)) = some (r1, r2) := by rw [if_neg (show ¬ (false = true) by decide)] at H; exact H
         clear H
         have H := H1
         clear H1
         simp only [Option.some.injEq, Prod.mk.injEq] at H
         obtain ⟨rfl, rfl⟩ := H
         go_wp2_with (first | ((with_reducible refine gate_callee (f := 103) rfl ?_); refine goesL_ (some 40) rfl rfl Try.func103 (by kernel_rfl) rfl #[.int .i64 a1, .int .i64 a2] rfl lU ?_; (with_reducible refine (spec_l1Times.calls kj3 a1 a2 t495 true _ A18.out).mono ?_); rintro e w' ⟨rfl, ⟨nd, rfl⟩⟩; refine ⟨_, rfl, ?_⟩) | ((with_reducible refine gate_callee (f := 56) rfl ?_); refine goesL_ (some 94) rfl rfl Try.func56 (by kernel_rfl) rfl #[.int .i64 t495] rfl lU ?_; (with_reducible refine (spec_NumOk.calls t495 false _ A20.out).mono ?_); rintro e w' ⟨rfl, ⟨nd, rfl⟩⟩; refine ⟨_, rfl, ?_⟩))
         go_ret2
         exact ⟨rU, dU⟩
       ·
        replace c19 := Bool.eq_false_iff.mpr c19
        subst c19
        have H1 : (some (0, 6)) = some (r1, r2) := by rw [if_neg (show ¬ (false = true) by decide)] at H; exact H
        clear H
        have H := H1
        clear H1
        simp only [Option.some.injEq, Prod.mk.injEq] at H
        obtain ⟨rfl, rfl⟩ := H
        go_wp2_with (first | ((with_reducible refine gate_callee (f := 103) rfl ?_); refine goesL_ (some 40) rfl rfl Try.func103 (by kernel_rfl) rfl #[.int .i64 a1, .int .i64 a2] rfl lU ?_; (with_reducible refine (spec_l1Times.calls kj3 a1 a2 t495 false _ A18.out).mono ?_); rintro e w' ⟨rfl, ⟨nd, rfl⟩⟩; refine ⟨_, rfl, ?_⟩))
        go_ret2
        exact ⟨rU, dU⟩
      ·
       rw [if_neg c17] at H
       have c17b0 : (a0 == 42) = false := beq_eq_false_iff_ne.mpr c17
       have c17b1 : (a0 != 42) = true := bne_iff_ne.mpr c17
       by_cases c22 : a0 = 37
       ·
        rw [if_pos c22] at H
        have c22b0 : (a0 == 37) = true := beq_iff_eq.mpr c22
        have c22b1 : (a0 != 37) = false := bne_eq_false_iff_eq.mpr c22
        clear c22
        by_cases c23 : a2 = 0
        ·
         rw [if_pos c23] at H
         have c23b0 : (a2 == 0) = true := beq_iff_eq.mpr c23
         have c23b1 : (a2 != 0) = false := bne_eq_false_iff_eq.mpr c23
         clear c23
         simp only [Option.some.injEq, Prod.mk.injEq] at H
         obtain ⟨rfl, rfl⟩ := H
         go_wp2
         go_ret2
         exact ⟨rU, dU⟩
        ·
         rw [if_neg c23] at H
         have c23b0 : (a2 == 0) = false := beq_eq_false_iff_ne.mpr c23
         have c23b1 : (a2 != 0) = true := bne_iff_ne.mpr c23
         replace H := Option.bind_eq_some_iff.mp H
         obtain ⟨t498, A240, H⟩ := H
         replace H : ((spec_NumOk.f t498).bind fun t499 => (if t499 = true then (some (t498, 0)) else (some (0, 6)))) = some (r1, r2) := H
         have A24 := Aside0.mk A240
         clear A240
         replace H := Option.bind_eq_some_iff.mp H
         obtain ⟨t499, A250, H⟩ := H
         replace H : (if t499 = true then (some (t498, 0)) else (some (0, 6))) = some (r1, r2) := H
         have A25 := Aside0.mk A250
         clear A250
         by_cases c26 : t499 = true
         ·
          subst c26
          have H1 : (some (t498, 0)) = some (r1, r2) := by rw [if_pos rfl] at H; exact H
          clear H
          have H := H1
          clear H1
          simp only [Option.some.injEq, Prod.mk.injEq] at H
          obtain ⟨rfl, rfl⟩ := H
          go_wp2_with (first | ((with_reducible refine gate_callee (f := 104) rfl ?_); refine goesL_ (some 52) rfl rfl Try.func104 (by kernel_rfl) rfl #[.int .i64 a1, .int .i64 a2] rfl lU ?_; (with_reducible refine (spec_l1Floor.calls a1 a2 t498 _ A24.out).mono ?_); rintro e w' ⟨rfl, ⟨nd, rfl⟩⟩; refine ⟨_, rfl, ?_⟩) | ((with_reducible refine gate_callee (f := 56) rfl ?_); refine goesL_ (some 94) rfl rfl Try.func56 (by kernel_rfl) rfl #[.int .i64 t498] rfl lU ?_; (with_reducible refine (spec_NumOk.calls t498 true _ A25.out).mono ?_); rintro e w' ⟨rfl, ⟨nd, rfl⟩⟩; refine ⟨_, rfl, ?_⟩))
          go_ret2
          exact ⟨rU, dU⟩
         ·
          replace c26 := Bool.eq_false_iff.mpr c26
          subst c26
          have H1 : (some (0, 6)) = some (r1, r2) := by rw [if_neg (show ¬ (false = true) by decide)] at H; exact H
          clear H
          have H := H1
          clear H1
          simp only [Option.some.injEq, Prod.mk.injEq] at H
          obtain ⟨rfl, rfl⟩ := H
          go_wp2_with (first | ((with_reducible refine gate_callee (f := 104) rfl ?_); refine goesL_ (some 52) rfl rfl Try.func104 (by kernel_rfl) rfl #[.int .i64 a1, .int .i64 a2] rfl lU ?_; (with_reducible refine (spec_l1Floor.calls a1 a2 t498 _ A24.out).mono ?_); rintro e w' ⟨rfl, ⟨nd, rfl⟩⟩; refine ⟨_, rfl, ?_⟩) | ((with_reducible refine gate_callee (f := 56) rfl ?_); refine goesL_ (some 94) rfl rfl Try.func56 (by kernel_rfl) rfl #[.int .i64 t498] rfl lU ?_; (with_reducible refine (spec_NumOk.calls t498 false _ A25.out).mono ?_); rintro e w' ⟨rfl, ⟨nd, rfl⟩⟩; refine ⟨_, rfl, ?_⟩))
          go_ret2
          exact ⟨rU, dU⟩
       ·
        rw [if_neg c22] at H
        have c22b0 : (a0 == 37) = false := beq_eq_false_iff_ne.mpr c22
        have c22b1 : (a0 != 37) = true := bne_iff_ne.mpr c22
        by_cases c27 : a0 = 124
        ·
         rw [if_pos c27] at H
         have c27b0 : (a0 == 124) = true := beq_iff_eq.mpr c27
         have c27b1 : (a0 != 124) = false := bne_eq_false_iff_eq.mpr c27
         clear c27
         by_cases c28 : a1 = 0
         ·
          rw [if_pos c28] at H
          have c28b0 : (a1 == 0) = true := beq_iff_eq.mpr c28
          have c28b1 : (a1 != 0) = false := bne_eq_false_iff_eq.mpr c28
          clear c28
          replace H := Option.bind_eq_some_iff.mp H
          obtain ⟨t500, A290, H⟩ := H
          replace H : (if t500 = true then (some (a2, 0)) else (some (0, 6))) = some (r1, r2) := H
          have A29 := Aside0.mk A290
          clear A290
          by_cases c30 : t500 = true
          ·
           subst c30
           have H1 : (some (a2, 0)) = some (r1, r2) := by rw [if_pos rfl] at H; exact H
           clear H
           have H := H1
           clear H1
           simp only [Option.some.injEq, Prod.mk.injEq] at H
           obtain ⟨rfl, rfl⟩ := H
           go_wp2_with (first | ((with_reducible refine gate_callee (f := 56) rfl ?_); refine goesL_ (some 94) rfl rfl Try.func56 (by kernel_rfl) rfl #[.int .i64 a2] rfl lU ?_; (with_reducible refine (spec_NumOk.calls a2 true _ A29.out).mono ?_); rintro e w' ⟨rfl, ⟨nd, rfl⟩⟩; refine ⟨_, rfl, ?_⟩))
           go_ret2
           exact ⟨rU, dU⟩
          ·
           replace c30 := Bool.eq_false_iff.mpr c30
           subst c30
           have H1 : (some (0, 6)) = some (r1, r2) := by rw [if_neg (show ¬ (false = true) by decide)] at H; exact H
           clear H
           have H := H1
           clear H1
           simp only [Option.some.injEq, Prod.mk.injEq] at H
           obtain ⟨rfl, rfl⟩ := H
           go_wp2_with (first | ((with_reducible refine gate_callee (f := 56) rfl ?_); refine goesL_ (some 94) rfl rfl Try.func56 (by kernel_rfl) rfl #[.int .i64 a2] rfl lU ?_; (with_reducible refine (spec_NumOk.calls a2 false _ A29.out).mono ?_); rintro e w' ⟨rfl, ⟨nd, rfl⟩⟩; refine ⟨_, rfl, ?_⟩))
           go_ret2
           exact ⟨rU, dU⟩
         ·
          rw [if_neg c28] at H
          have c28b0 : (a1 == 0) = false := beq_eq_false_iff_ne.mpr c28
          have c28b1 : (a1 != 0) = true := bne_iff_ne.mpr c28
          replace H := Option.bind_eq_some_iff.mp H
          obtain ⟨t501, A310, H⟩ := H
          replace H : ((spec_NumOk.f (wrap64 (a2 - (wrap64 (a1 * t501))))).bind fun t502 => (if t502 = true then (some (wrap64 (a2 - (wrap64 (a1 * t501))), 0)) else (some (0, 6)))) = some (r1, r2) := H
          have A31 := Aside0.mk A310
          clear A310
          replace H := Option.bind_eq_some_iff.mp H
          obtain ⟨t502, A320, H⟩ := H
          replace H : (if t502 = true then (some (wrap64 (a2 - (wrap64 (a1 * t501))), 0)) else (some (0, 6))) = some (r1, r2) := H
          have A32 := Aside0.mk A320
          clear A320
          by_cases c33 : t502 = true
          ·
           subst c33
           have H1 : (some (wrap64 (a2 - (wrap64 (a1 * t501))), 0)) = some (r1, r2) := by rw [if_pos rfl] at H; exact H
           clear H
           have H := H1
           clear H1
           simp only [Option.some.injEq, Prod.mk.injEq] at H
           obtain ⟨rfl, rfl⟩ := H
           go_wp2_with (first | ((with_reducible refine gate_callee (f := 104) rfl ?_); refine goesL_ (some 62) rfl rfl Try.func104 (by kernel_rfl) rfl #[.int .i64 a2, .int .i64 a1] rfl lU ?_; (with_reducible refine (spec_l1Floor.calls a2 a1 t501 _ A31.out).mono ?_); rintro e w' ⟨rfl, ⟨nd, rfl⟩⟩; refine ⟨_, rfl, ?_⟩) | ((with_reducible refine gate_callee (f := 56) rfl ?_); refine goesL_ (some 94) rfl rfl Try.func56 (by kernel_rfl) rfl #[.int .i64 (wrap64 (a2 - (wrap64 (a1 * t501))))] rfl lU ?_; (with_reducible refine (spec_NumOk.calls (wrap64 (a2 - (wrap64 (a1 * t501)))) true _ A32.out).mono ?_); rintro e w' ⟨rfl, ⟨nd, rfl⟩⟩; refine ⟨_, rfl, ?_⟩))
           go_ret2
           exact ⟨rU, dU⟩
          ·
           replace c33 := Bool.eq_false_iff.mpr c33
           subst c33
           have H1 : (some (0, 6)) = some (r1, r2) := by rw [if_neg (show ¬ (false = true) by decide)] at H; exact H
           clear H
           have H := H1
           clear H1
           simp only [Option.some.injEq, Prod.mk.injEq] at H
           obtain ⟨rfl, rfl⟩ := H
           go_wp2_with (first | ((with_reducible refine gate_callee (f := 104) rfl ?_); refine goesL_ (some 62) rfl rfl Try.func104 (by kernel_rfl) rfl #[.int .i64 a2, .int .i64 a1] rfl lU ?_; (with_reducible refine (spec_l1Floor.calls a2 a1 t501 _ A31.out).mono ?_); rintro e w' ⟨rfl, ⟨nd, rfl⟩⟩; refine ⟨_, rfl, ?_⟩) | ((with_reducible refine gate_callee (f := 56) rfl ?_); refine goesL_ (some 94) rfl rfl Try.func56 (by kernel_rfl) rfl #[.int .i64 (wrap64 (a2 - (wrap64 (a1 * t501))))] rfl lU ?_; (with_reducible refine (spec_NumOk.calls (wrap64 (a2 - (wrap64 (a1 * t501)))) false _ A32.out).mono ?_); rintro e w' ⟨rfl, ⟨nd, rfl⟩⟩; refine ⟨_, rfl, ?_⟩))
           go_ret2
           exact ⟨rU, dU⟩
        ·
         rw [if_neg c27] at H
         have c27b0 : (a0 == 124) = false := beq_eq_false_iff_ne.mpr c27
         have c27b1 : (a0 != 124) = true := bne_iff_ne.mpr c27
         by_cases c34 : a0 = 38
         ·
          rw [if_pos c34] at H
          have c34b0 : (a0 == 38) = true := beq_iff_eq.mpr c34
          have c34b1 : (a0 != 38) = false := bne_eq_false_iff_eq.mpr c34
          clear c34
          replace H := Option.bind_eq_some_iff.mp H
          obtain ⟨t503, A350, H⟩ := H
          replace H : ((spec_NumOk.f t503).bind fun t504 => (if t504 = true then (some (t503, 0)) else (some (0, 6)))) = some (r1, r2) := H
          have A35 := Aside0.mk A350
          clear A350
          replace H := Option.bind_eq_some_iff.mp H
          obtain ⟨t504, A360, H⟩ := H
          replace H : (if t504 = true then (some (t503, 0)) else (some (0, 6))) = some (r1, r2) := H
          have A36 := Aside0.mk A360
          clear A360
          by_cases c37 : t504 = true
          ·
           subst c37
           have H1 : (some (t503, 0)) = some (r1, r2) := by rw [if_pos rfl] at H; exact H
           clear H
           have H := H1
           clear H1
           simp only [Option.some.injEq, Prod.mk.injEq] at H
           obtain ⟨rfl, rfl⟩ := H
           go_wp2_with (first | ((with_reducible refine gate_callee (f := 105) rfl ?_); refine goesL_ (some 69) rfl rfl Try.func105 (by kernel_rfl) rfl #[.int .i64 a1, .int .i64 a2] rfl lU ?_; (with_reducible refine (spec_l1Min.calls a1 a2 t503 _ A35.out).mono ?_); rintro e w' ⟨rfl, ⟨nd, rfl⟩⟩; refine ⟨_, rfl, ?_⟩) | ((with_reducible refine gate_callee (f := 56) rfl ?_); refine goesL_ (some 94) rfl rfl Try.func56 (by kernel_rfl) rfl #[.int .i64 t503] rfl lU ?_; (with_reducible refine (spec_NumOk.calls t503 true _ A36.out).mono ?_); rintro e w' ⟨rfl, ⟨nd, rfl⟩⟩; refine ⟨_, rfl, ?_⟩))
           go_ret2
           exact ⟨rU, dU⟩
          ·
           replace c37 := Bool.eq_false_iff.mpr c37
           subst c37
           have H1 : (some (0, 6)) = some (r1, r2) := by rw [if_neg (show ¬ (false = true) by decide)] at H; exact H
           clear H
           have H := H1
           clear H1
           simp only [Option.some.injEq, Prod.mk.injEq] at H
           obtain ⟨rfl, rfl⟩ := H
           go_wp2_with (first | ((with_reducible refine gate_callee (f := 105) rfl ?_); refine goesL_ (some 69) rfl rfl Try.func105 (by kernel_rfl) rfl #[.int .i64 a1, .int .i64 a2] rfl lU ?_; (with_reducible refine (spec_l1Min.calls a1 a2 t503 _ A35.out).mono ?_); rintro e w' ⟨rfl, ⟨nd, rfl⟩⟩; refine ⟨_, rfl, ?_⟩) | ((with_reducible refine gate_callee (f := 56) rfl ?_); refine goesL_ (some 94) rfl rfl Try.func56 (by kernel_rfl) rfl #[.int .i64 t503] rfl lU ?_; (with_reducible refine (spec_NumOk.calls t503 false _ A36.out).mono ?_); rintro e w' ⟨rfl, ⟨nd, rfl⟩⟩; refine ⟨_, rfl, ?_⟩))
           go_ret2
           exact ⟨rU, dU⟩
         ·
          rw [if_neg c34] at H
          have c34b0 : (a0 == 38) = false := beq_eq_false_iff_ne.mpr c34
          have c34b1 : (a0 != 38) = true := bne_iff_ne.mpr c34
          by_cases c38 : a0 = 94
          ·
           rw [if_pos c38] at H
           have c38b0 : (a0 == 94) = true := beq_iff_eq.mpr c38
           have c38b1 : (a0 != 94) = false := bne_eq_false_iff_eq.mpr c38
           clear c38
           replace H := Option.bind_eq_some_iff.mp H
           obtain ⟨t505, A390, H⟩ := H
           replace H : ((spec_NumOk.f t505).bind fun t506 => (if t506 = true then (some (t505, 0)) else (some (0, 6)))) = some (r1, r2) := H
           have A39 := Aside0.mk A390
           clear A390
           replace H := Option.bind_eq_some_iff.mp H
           obtain ⟨t506, A400, H⟩ := H
           replace H : (if t506 = true then (some (t505, 0)) else (some (0, 6))) = some (r1, r2) := H
           have A40 := Aside0.mk A400
           clear A400
           by_cases c41 : t506 = true
           ·
            subst c41
            have H1 : (some (t505, 0)) = some (r1, r2) := by rw [if_pos rfl] at H; exact H
            clear H
            have H := H1
            clear H1
            simp only [Option.some.injEq, Prod.mk.injEq] at H
            obtain ⟨rfl, rfl⟩ := H
            go_wp2_with (first | ((with_reducible refine gate_callee (f := 92) rfl ?_); refine goesL_ (some 74) rfl rfl Try.func92 (by kernel_rfl) rfl #[.int .i64 a1, .int .i64 a2] rfl lU ?_; (with_reducible refine (spec_l1Max.calls a1 a2 t505 _ A39.out).mono ?_); rintro e w' ⟨rfl, ⟨nd, rfl⟩⟩; refine ⟨_, rfl, ?_⟩) | ((with_reducible refine gate_callee (f := 56) rfl ?_); refine goesL_ (some 94) rfl rfl Try.func56 (by kernel_rfl) rfl #[.int .i64 t505] rfl lU ?_; (with_reducible refine (spec_NumOk.calls t505 true _ A40.out).mono ?_); rintro e w' ⟨rfl, ⟨nd, rfl⟩⟩; refine ⟨_, rfl, ?_⟩))
            go_ret2
            exact ⟨rU, dU⟩
           ·
            replace c41 := Bool.eq_false_iff.mpr c41
            subst c41
            have H1 : (some (0, 6)) = some (r1, r2) := by rw [if_neg (show ¬ (false = true) by decide)] at H; exact H
            clear H
            have H := H1
            clear H1
            simp only [Option.some.injEq, Prod.mk.injEq] at H
            obtain ⟨rfl, rfl⟩ := H
            go_wp2_with (first | ((with_reducible refine gate_callee (f := 92) rfl ?_); refine goesL_ (some 74) rfl rfl Try.func92 (by kernel_rfl) rfl #[.int .i64 a1, .int .i64 a2] rfl lU ?_; (with_reducible refine (spec_l1Max.calls a1 a2 t505 _ A39.out).mono ?_); rintro e w' ⟨rfl, ⟨nd, rfl⟩⟩; refine ⟨_, rfl, ?_⟩) | ((with_reducible refine gate_callee (f := 56) rfl ?_); refine goesL_ (some 94) rfl rfl Try.func56 (by kernel_rfl) rfl #[.int .i64 t505] rfl lU ?_; (with_reducible refine (spec_NumOk.calls t505 false _ A40.out).mono ?_); rintro e w' ⟨rfl, ⟨nd, rfl⟩⟩; refine ⟨_, rfl, ?_⟩))
            go_ret2
            exact ⟨rU, dU⟩
          ·
           rw [if_neg c38] at H
           have c38b0 : (a0 == 94) = false := beq_eq_false_iff_ne.mpr c38
           have c38b1 : (a0 != 94) = true := bne_iff_ne.mpr c38
           by_cases c42 : a0 = 61
           ·
            rw [if_pos c42] at H
            have c42b0 : (a0 == 61) = true := beq_iff_eq.mpr c42
            have c42b1 : (a0 != 61) = false := bne_eq_false_iff_eq.mpr c42
            clear c42
            replace H := Option.bind_eq_some_iff.mp H
            obtain ⟨t507, A430, H⟩ := H
            replace H : ((spec_NumOk.f t507).bind fun t508 => (if t508 = true then (some (t507, 0)) else (some (0, 6)))) = some (r1, r2) := H
            have A43 := Aside0.mk A430
            clear A430
            replace H := Option.bind_eq_some_iff.mp H
            obtain ⟨t508, A440, H⟩ := H
            replace H : (if t508 = true then (some (t507, 0)) else (some (0, 6))) = some (r1, r2) := H
            have A44 := Aside0.mk A440
            clear A440
            by_cases c45 : t508 = true
            ·
             subst c45
             have H1 : (some (t507, 0)) = some (r1, r2) := by rw [if_pos rfl] at H; exact H
             clear H
             have H := H1
             clear H1
             simp only [Option.some.injEq, Prod.mk.injEq] at H
             obtain ⟨rfl, rfl⟩ := H
             go_wp2_with (first | ((with_reducible refine gate_callee (f := 106) rfl ?_); refine goesL_ (some 80) rfl rfl Try.func106 (by kernel_rfl) rfl #[.bool (a1 == a2)] rfl lU ?_; (with_reducible refine (spec_l1Bit.calls (a1 == a2) t507 _ A43.out).mono ?_); rintro e w' ⟨rfl, ⟨nd, rfl⟩⟩; refine ⟨_, rfl, ?_⟩) | ((with_reducible refine gate_callee (f := 56) rfl ?_); refine goesL_ (some 94) rfl rfl Try.func56 (by kernel_rfl) rfl #[.int .i64 t507] rfl lU ?_; (with_reducible refine (spec_NumOk.calls t507 true _ A44.out).mono ?_); rintro e w' ⟨rfl, ⟨nd, rfl⟩⟩; refine ⟨_, rfl, ?_⟩))
             go_ret2
             exact ⟨rU, dU⟩
            ·
             replace c45 := Bool.eq_false_iff.mpr c45
             subst c45
             have H1 : (some (0, 6)) = some (r1, r2) := by rw [if_neg (show ¬ (false = true) by decide)] at H; exact H
             clear H
             have H := H1
             clear H1
             simp only [Option.some.injEq, Prod.mk.injEq] at H
             obtain ⟨rfl, rfl⟩ := H
             go_wp2_with (first | ((with_reducible refine gate_callee (f := 106) rfl ?_); refine goesL_ (some 80) rfl rfl Try.func106 (by kernel_rfl) rfl #[.bool (a1 == a2)] rfl lU ?_; (with_reducible refine (spec_l1Bit.calls (a1 == a2) t507 _ A43.out).mono ?_); rintro e w' ⟨rfl, ⟨nd, rfl⟩⟩; refine ⟨_, rfl, ?_⟩) | ((with_reducible refine gate_callee (f := 56) rfl ?_); refine goesL_ (some 94) rfl rfl Try.func56 (by kernel_rfl) rfl #[.int .i64 t507] rfl lU ?_; (with_reducible refine (spec_NumOk.calls t507 false _ A44.out).mono ?_); rintro e w' ⟨rfl, ⟨nd, rfl⟩⟩; refine ⟨_, rfl, ?_⟩))
             go_ret2
             exact ⟨rU, dU⟩
           ·
            rw [if_neg c42] at H
            have c42b0 : (a0 == 61) = false := beq_eq_false_iff_ne.mpr c42
            have c42b1 : (a0 != 61) = true := bne_iff_ne.mpr c42
            by_cases c46 : a0 = 60
            ·
             rw [if_pos c46] at H
             have c46b0 : (a0 == 60) = true := beq_iff_eq.mpr c46
             have c46b1 : (a0 != 60) = false := bne_eq_false_iff_eq.mpr c46
             clear c46
             replace H := Option.bind_eq_some_iff.mp H
             obtain ⟨t509, A470, H⟩ := H
             replace H : ((spec_NumOk.f t509).bind fun t510 => (if t510 = true then (some (t509, 0)) else (some (0, 6)))) = some (r1, r2) := H
             have A47 := Aside0.mk A470
             clear A470
             replace H := Option.bind_eq_some_iff.mp H
             obtain ⟨t510, A480, H⟩ := H
             replace H : (if t510 = true then (some (t509, 0)) else (some (0, 6))) = some (r1, r2) := H
             have A48 := Aside0.mk A480
             clear A480
             by_cases c49 : t510 = true
             ·
              subst c49
              have H1 : (some (t509, 0)) = some (r1, r2) := by rw [if_pos rfl] at H; exact H
              clear H
              have H := H1
              clear H1
              simp only [Option.some.injEq, Prod.mk.injEq] at H
              obtain ⟨rfl, rfl⟩ := H
              go_wp2_with (first | ((with_reducible refine gate_callee (f := 106) rfl ?_); refine goesL_ (some 86) rfl rfl Try.func106 (by kernel_rfl) rfl #[.bool (decide (a1 < a2))] rfl lU ?_; (with_reducible refine (spec_l1Bit.calls (decide (a1 < a2)) t509 _ A47.out).mono ?_); rintro e w' ⟨rfl, ⟨nd, rfl⟩⟩; refine ⟨_, rfl, ?_⟩) | ((with_reducible refine gate_callee (f := 56) rfl ?_); refine goesL_ (some 94) rfl rfl Try.func56 (by kernel_rfl) rfl #[.int .i64 t509] rfl lU ?_; (with_reducible refine (spec_NumOk.calls t509 true _ A48.out).mono ?_); rintro e w' ⟨rfl, ⟨nd, rfl⟩⟩; refine ⟨_, rfl, ?_⟩))
              go_ret2
              exact ⟨rU, dU⟩
             ·
              replace c49 := Bool.eq_false_iff.mpr c49
              subst c49
              have H1 : (some (0, 6)) = some (r1, r2) := by rw [if_neg (show ¬ (false = true) by decide)] at H; exact H
              clear H
              have H := H1
              clear H1
              simp only [Option.some.injEq, Prod.mk.injEq] at H
              obtain ⟨rfl, rfl⟩ := H
              go_wp2_with (first | ((with_reducible refine gate_callee (f := 106) rfl ?_); refine goesL_ (some 86) rfl rfl Try.func106 (by kernel_rfl) rfl #[.bool (decide (a1 < a2))] rfl lU ?_; (with_reducible refine (spec_l1Bit.calls (decide (a1 < a2)) t509 _ A47.out).mono ?_); rintro e w' ⟨rfl, ⟨nd, rfl⟩⟩; refine ⟨_, rfl, ?_⟩) | ((with_reducible refine gate_callee (f := 56) rfl ?_); refine goesL_ (some 94) rfl rfl Try.func56 (by kernel_rfl) rfl #[.int .i64 t509] rfl lU ?_; (with_reducible refine (spec_NumOk.calls t509 false _ A48.out).mono ?_); rintro e w' ⟨rfl, ⟨nd, rfl⟩⟩; refine ⟨_, rfl, ?_⟩))
              go_ret2
              exact ⟨rU, dU⟩
            ·
             rw [if_neg c46] at H
             have c46b0 : (a0 == 60) = false := beq_eq_false_iff_ne.mpr c46
             have c46b1 : (a0 != 60) = true := bne_iff_ne.mpr c46
             by_cases c50 : a0 = 62
             ·
              rw [if_pos c50] at H
              have c50b0 : (a0 == 62) = true := beq_iff_eq.mpr c50
              have c50b1 : (a0 != 62) = false := bne_eq_false_iff_eq.mpr c50
              clear c50
              replace H := Option.bind_eq_some_iff.mp H
              obtain ⟨t511, A510, H⟩ := H
              replace H : ((spec_NumOk.f t511).bind fun t512 => (if t512 = true then (some (t511, 0)) else (some (0, 6)))) = some (r1, r2) := H
              have A51 := Aside0.mk A510
              clear A510
              replace H := Option.bind_eq_some_iff.mp H
              obtain ⟨t512, A520, H⟩ := H
              replace H : (if t512 = true then (some (t511, 0)) else (some (0, 6))) = some (r1, r2) := H
              have A52 := Aside0.mk A520
              clear A520
              by_cases c53 : t512 = true
              ·
               subst c53
               have H1 : (some (t511, 0)) = some (r1, r2) := by rw [if_pos rfl] at H; exact H
               clear H
               have H := H1
               clear H1
               simp only [Option.some.injEq, Prod.mk.injEq] at H
               obtain ⟨rfl, rfl⟩ := H
               go_wp2_with (first | ((with_reducible refine gate_callee (f := 106) rfl ?_); refine goesL_ (some 92) rfl rfl Try.func106 (by kernel_rfl) rfl #[.bool (decide (a1 > a2))] rfl lU ?_; (with_reducible refine (spec_l1Bit.calls (decide (a1 > a2)) t511 _ A51.out).mono ?_); rintro e w' ⟨rfl, ⟨nd, rfl⟩⟩; refine ⟨_, rfl, ?_⟩) | ((with_reducible refine gate_callee (f := 56) rfl ?_); refine goesL_ (some 94) rfl rfl Try.func56 (by kernel_rfl) rfl #[.int .i64 t511] rfl lU ?_; (with_reducible refine (spec_NumOk.calls t511 true _ A52.out).mono ?_); rintro e w' ⟨rfl, ⟨nd, rfl⟩⟩; refine ⟨_, rfl, ?_⟩))
               go_ret2
               exact ⟨rU, dU⟩
              ·
               replace c53 := Bool.eq_false_iff.mpr c53
               subst c53
               have H1 : (some (0, 6)) = some (r1, r2) := by rw [if_neg (show ¬ (false = true) by decide)] at H; exact H
               clear H
               have H := H1
               clear H1
               simp only [Option.some.injEq, Prod.mk.injEq] at H
               obtain ⟨rfl, rfl⟩ := H
               go_wp2_with (first | ((with_reducible refine gate_callee (f := 106) rfl ?_); refine goesL_ (some 92) rfl rfl Try.func106 (by kernel_rfl) rfl #[.bool (decide (a1 > a2))] rfl lU ?_; (with_reducible refine (spec_l1Bit.calls (decide (a1 > a2)) t511 _ A51.out).mono ?_); rintro e w' ⟨rfl, ⟨nd, rfl⟩⟩; refine ⟨_, rfl, ?_⟩) | ((with_reducible refine gate_callee (f := 56) rfl ?_); refine goesL_ (some 94) rfl rfl Try.func56 (by kernel_rfl) rfl #[.int .i64 t511] rfl lU ?_; (with_reducible refine (spec_NumOk.calls t511 false _ A52.out).mono ?_); rintro e w' ⟨rfl, ⟨nd, rfl⟩⟩; refine ⟨_, rfl, ?_⟩))
               go_ret2
               exact ⟨rU, dU⟩
             ·
              rw [if_neg c50] at H
              have c50b0 : (a0 == 62) = false := beq_eq_false_iff_ne.mpr c50
              have c50b1 : (a0 != 62) = true := bne_iff_ne.mpr c50
              replace H := Option.bind_eq_some_iff.mp H
              obtain ⟨t513, A540, H⟩ := H
              replace H : (if t513 = true then (some (0, 0)) else (some (0, 6))) = some (r1, r2) := H
              have A54 := Aside0.mk A540
              clear A540
              by_cases c55 : t513 = true
              ·
               subst c55
               have H1 : (some (0, 0)) = some (r1, r2) := by rw [if_pos rfl] at H; exact H
               clear H
               have H := H1
               clear H1
               simp only [Option.some.injEq, Prod.mk.injEq] at H
               obtain ⟨rfl, rfl⟩ := H
               go_wp2_with (first | ((with_reducible refine gate_callee (f := 56) rfl ?_); refine goesL_ (some 94) rfl rfl Try.func56 (by kernel_rfl) rfl #[.int .i64 0] rfl lU ?_; (with_reducible refine (spec_NumOk.calls 0 true _ A54.out).mono ?_); rintro e w' ⟨rfl, ⟨nd, rfl⟩⟩; refine ⟨_, rfl, ?_⟩))
               go_ret2
               exact ⟨rU, dU⟩
              ·
               replace c55 := Bool.eq_false_iff.mpr c55
               subst c55
               have H1 : (some (0, 6)) = some (r1, r2) := by rw [if_neg (show ¬ (false = true) by decide)] at H; exact H
               clear H
               have H := H1
               clear H1
               simp only [Option.some.injEq, Prod.mk.injEq] at H
               obtain ⟨rfl, rfl⟩ := H
               go_wp2_with (first | ((with_reducible refine gate_callee (f := 56) rfl ?_); refine goesL_ (some 94) rfl rfl Try.func56 (by kernel_rfl) rfl #[.int .i64 0] rfl lU ?_; (with_reducible refine (spec_NumOk.calls 0 false _ A54.out).mono ?_); rintro e w' ⟨rfl, ⟨nd, rfl⟩⟩; refine ⟨_, rfl, ?_⟩))
               go_ret2
               exact ⟨rU, dU⟩

end Go.Proofs.Ytlaikodjcjfeiaa.PFnEach
