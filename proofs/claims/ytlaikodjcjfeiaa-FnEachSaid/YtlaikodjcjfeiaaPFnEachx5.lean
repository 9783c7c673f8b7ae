/- The walk of what a law reaches, for the law's row: written by a program of this session; it has no condition of its own. -/
import Derived.Test.YtlaikodjcjfeiaaPFnEachx0
import Derived.Test.YtlaikodjcjfeiaaQ
import Derived.Test.YtlaikodjcjfeiaaPFnEachx4
namespace Go.Proofs.Ytlaikodjcjfeiaa.PFnEach
open Go.RowKit Go.Proofs.YtlaikodjcjfeiaaW.PrintWords Go.Proofs.YtlaikodjcjfeiaaW.PrintLast Go.Proofs.YtlaikodjcjfeiaaW.PrintMore Go.Proofs.YtlaikodjcjfeiaaQ
attribute [local go_sem] max2_int min2_int max_two min_two max_three min_three max_four min_four   -- for this text's walks alone
set_option linter.unusedVariables false
set_option linter.unusedSimpArgs false

/-! ### impl_SizeOf: function 44 -/
def impl_SizeOf.l0 : Nat → Int → List Int → Int → Int → Option (Int)
 | 0, _, _, _, _ => none
 | k + 1, x3, x9, x10, x11 => if x11 < x10 then (if 0 ≤ x11 then (if x11 < (x9.length : Int) then ((impl_within.f (rd x9 x11) 0 300).bind fun t385 => (if t385 = true then (impl_SizeOf.l0 k (wrap64 (x3 * (rd x9 x11))) x9 x10 (wrap64 (x11 + 1))) else (some (-1)))) else (none)) else (none)) else (if x3 > 300 then (some (-1)) else (some x3))
def impl_SizeOf.f (k : Nat) (l0 : List Int) : Option (Int) := if (l0.length : Int) > 3 then (some (-1)) else (impl_SizeOf.l0 k 1 l0 (l0.length : Int) 0)
set_option maxHeartbeats 8000000 in
set_option maxRecDepth 100000 in
theorem impl_SizeOf.calls (k : Nat) (A0 : Option Addr) (c0 : Nat) (l0 : List Int) (r : Int) (w : World) (hr0 : Kd.C (Kd.int .i64) w A0 l0.length l0) (hc0 : l0.length ≤ c0) (h : impl_SizeOf.f k l0 = some r) :
  Calls Try.prog 44 #[.slice A0 l0.length c0] w fun e w' => e = .returned (.int .i64 r) ∧ Drawn0 w w' := by
 have HR0 := Aside0.mk hr0
 have HC0 := Aside0.mk hc0
 clear hr0 hc0
 have H : (if (l0.length : Int) > 3 then (some (-1)) else (impl_SizeOf.l0 k 1 l0 (l0.length : Int) 0)) = some r := h
 clear h
 by_cases c2 : (l0.length : Int) > 3
 ·
  rw [if_pos c2] at H
  have c2b0 : decide (3 < (l0.length : Int)) = true := decide_eq_true c2
  have c2b1 : decide (3 < l0.length) = true := decide_eq_true (by omega)
  clear c2
  obtain rfl := Option.some.inj H
  go_enter Try.func44, Try.ntmps44
  go_wp2
  go_ret
  exact ⟨rU, dU⟩
 ·
  rw [if_neg c2] at H
  have c2b0 : decide (3 < (l0.length : Int)) = false := decide_eq_false c2
  have c2b1 : decide (3 < l0.length) = false := decide_eq_false (by omega)
  clear c2
  have H' := Aside0.mk H
  clear H
  go_enter Try.func44, Try.ntmps44
  go_wp2
  go_loopg [3, 11] k (fun kq v3 v11 w' => ∃ (x3_1 : Int) (x11_1 : Int), v3 = .int .i64 x3_1 ∧ v11 = .int .i64 x11_1 ∧ Aside0 (impl_SizeOf.l0 kq x3_1 l0 (l0.length : Int) x11_1 = some r) ∧ Aside0 (kq ≤ k) ∧ Drawn0 w w')
  case atStart => exact ⟨(1), (0), (by first | rfl | (simp; done) | (simp [*]; done)), (by first | rfl | (simp; done) | (simp [*]; done)), H', ⟨Nat.le_refl _⟩, by repeat (first | exact Drawn0.refl _ | apply Drawn0.step)⟩
  case round =>
   clear H'
   try clear c2
   try clear c2b0
   try clear c2b1
   try clear p2
   obtain ⟨x3_1, x11_1, rfl, rfl, HA, HK1, ⟨m1, rfl⟩⟩ := hrel
   cases gk with
   | zero => exact absurd HA.out (by simp [impl_SizeOf.l0])
   | succ k1 =>
    have H := HA.out
    clear HA
    simp only [impl_SizeOf.l0] at H
    by_cases c3 : x11_1 < (l0.length : Int)
    ·
     rw [if_pos c3] at H
     have c3b0 : decide (x11_1 < (l0.length : Int)) = true := decide_eq_true c3
     clear c3
     by_cases c4 : 0 ≤ x11_1
     ·
      rw [if_pos c4] at H
      have c4b0 : decide (0 ≤ x11_1) = true := decide_eq_true c4
      clear c4
      by_cases c5 : x11_1 < (l0.length : Int)
      ·
       rw [if_pos c5] at H
       have c5b0 : decide (x11_1 < (l0.length : Int)) = true := decide_eq_true c5
       clear c5
       replace H := Option.bind_eq_some_iff.mp H
       obtain ⟨t385, A60, H⟩ := H
       replace H : (if t385 = true then (impl_SizeOf.l0 k1 (wrap64 (x3_1 * (rd l0 x11_1))) l0 (l0.length : Int) (wrap64 (x11_1 + 1))) else (some (-1))) = some r := H
       have A6 := Aside0.mk A60
       clear A60
       by_cases c7 : t385 = true
       ·
        subst c7
        have H1 : (impl_SizeOf.l0 k1 (wrap64 (x3_1 * (rd l0 x11_1))) l0 (l0.length : Int) (wrap64 (x11_1 + 1))) = some r := by rw [if_pos rfl] at H; exact H
        clear H
        have H := H1
        clear H1
        have H' := Aside0.mk H
        clear H
        have p384 : 0 ≤ (x11_1 : Int) := of_decide_eq_true (by first | (with_reducible assumption) | assumption)
        have q384 : x11_1 < (l0.length : Int) := of_decide_eq_true (by first | (with_reducible assumption) | assumption)
        obtain ⟨ad384, e384, hx384_0⟩ := Kd.at_int HR0.out x11_1 p384 q384
        cases e384
        replace p384 := eq_true p384
        replace q384 := eq_true q384
        go_wp2_with (first | ((with_reducible refine gate_callee (f := 89) rfl ?_); refine goesL_ (some 16) rfl rfl Try.func89 (by kernel_rfl) rfl #[.int .i64 (rd l0 x11_1), .int .i64 0, .int .i64 300] rfl lU ?_; (with_reducible refine (impl_within.calls (rd l0 x11_1) 0 300 true _ A6.out).mono ?_); rintro e w' ⟨rfl, ⟨nd, rfl⟩⟩; refine ⟨_, rfl, ?_⟩))
        go_roundg k1
        case measure => have := HK1.out; omega
        case rel => exact ⟨(wrap64 (x3_1 * (rd l0 x11_1))), (wrap64 (x11_1 + 1)), (by first | rfl | (simp; done) | (simp [*]; done)), (by first | rfl | (simp; done) | (simp [*]; done)), H', ⟨by have := HK1.out; omega⟩, by repeat (first | exact Drawn0.refl _ | apply Drawn0.step)⟩
       ·
        replace c7 := Bool.eq_false_iff.mpr c7
        subst c7
        have H1 : (some (-1)) = some r := by rw [if_neg (show ¬ (false = true) by decide)] at H; exact H
        clear H
        have H := H1
        clear H1
        obtain rfl := Option.some.inj H
        have p384 : 0 ≤ (x11_1 : Int) := of_decide_eq_true (by first | (with_reducible assumption) | assumption)
        have q384 : x11_1 < (l0.length : Int) := of_decide_eq_true (by first | (with_reducible assumption) | assumption)
        obtain ⟨ad384, e384, hx384_0⟩ := Kd.at_int HR0.out x11_1 p384 q384
        cases e384
        replace p384 := eq_true p384
        replace q384 := eq_true q384
        go_wp2_with (first | ((with_reducible refine gate_callee (f := 89) rfl ?_); refine goesL_ (some 16) rfl rfl Try.func89 (by kernel_rfl) rfl #[.int .i64 (rd l0 x11_1), .int .i64 0, .int .i64 300] rfl lU ?_; (with_reducible refine (impl_within.calls (rd l0 x11_1) 0 300 false _ A6.out).mono ?_); rintro e w' ⟨rfl, ⟨nd, rfl⟩⟩; refine ⟨_, rfl, ?_⟩))
        go_ret
        exact ⟨rU, dU⟩
      ·
       rw [if_neg c5] at H
       exact absurd H (by simp)
     ·
      rw [if_neg c4] at H
      exact absurd H (by simp)
    ·
     rw [if_neg c3] at H
     have c3b0 : decide (x11_1 < (l0.length : Int)) = false := decide_eq_false c3
     clear c3
     by_cases c8 : x3_1 > 300
     ·
      rw [if_pos c8] at H
      have c8b0 : decide (300 < x3_1) = true := decide_eq_true c8
      clear c8
      obtain rfl := Option.some.inj H
      go_wp2
      go_ret
      exact ⟨rU, dU⟩
     ·
      rw [if_neg c8] at H
      have c8b0 : decide (300 < x3_1) = false := decide_eq_false c8
      clear c8
      obtain rfl := Option.some.inj H
      go_wp2
      go_ret
      exact ⟨rU, dU⟩

/-! ### impl_NumOk: function 57 -/
def impl_NumOk.f (a0 : Int) : Option (Bool) := (impl_within.f a0 (-1000000000000) 1000000000000).bind fun t386 => (some t386)
set_option maxHeartbeats 8000000 in
set_option maxRecDepth 100000 in
theorem impl_NumOk.calls (a0 : Int) (r : Bool) (w : World) (h : impl_NumOk.f a0 = some r) :
  Calls Try.prog 57 #[.int .i64 a0] w fun e w' => e = .returned (.bool r) ∧ Drawn0 w w' := by
 have H : ((impl_within.f a0 (-1000000000000) 1000000000000).bind fun t386 => (some t386)) = some r := h
 clear h
 replace H := Option.bind_eq_some_iff.mp H
 obtain ⟨t386, A20, H⟩ := H
 replace H : (some t386) = some r := H
 have A2 := Aside0.mk A20
 clear A20
 obtain rfl := Option.some.inj H
 go_enter Try.func57, Try.ntmps57
 go_wp2_with (first | ((with_reducible refine gate_callee (f := 89) rfl ?_); refine goesL_ (some 4) rfl rfl Try.func89 (by kernel_rfl) rfl #[.int .i64 a0, .int .i64 (-1000000000000), .int .i64 1000000000000] rfl lU ?_; (with_reducible refine (impl_within.calls a0 (-1000000000000) 1000000000000 t386 _ A2.out).mono ?_); rintro e w' ⟨rfl, ⟨nd, rfl⟩⟩; refine ⟨_, rfl, ?_⟩))
 go_ret
 exact ⟨rU, dU⟩

/-! ### impl_ArrayOk_lit1: function 79 -/
def impl_ArrayOk_lit1.f (a0 : Int) : Option (Bool) := (impl_NumOk.f a0).bind fun t387 => (some (!t387))
set_option maxHeartbeats 8000000 in
set_option maxRecDepth 100000 in
theorem impl_ArrayOk_lit1.calls (a0 : Int) (r : Bool) (w : World) (h : impl_ArrayOk_lit1.f a0 = some r) :
  Calls Try.prog 79 #[.int .i64 a0] w fun e w' => e = .returned (.bool r) ∧ Drawn0 w w' := by
 have H : ((impl_NumOk.f a0).bind fun t387 => (some (!t387))) = some r := h
 clear h
 replace H := Option.bind_eq_some_iff.mp H
 obtain ⟨t387, A20, H⟩ := H
 replace H : (some (!t387)) = some r := H
 have A2 := Aside0.mk A20
 clear A20
 obtain rfl := Option.some.inj H
 go_enter Try.func79, Try.ntmps79
 go_wp2_with (first | ((with_reducible refine gate_callee (f := 57) rfl ?_); refine goesL_ (some 4) rfl rfl Try.func57 (by kernel_rfl) rfl #[.int .i64 a0] rfl lU ?_; (with_reducible refine (impl_NumOk.calls a0 t387 _ A2.out).mono ?_); rintro e w' ⟨rfl, ⟨nd, rfl⟩⟩; refine ⟨_, rfl, ?_⟩))
 go_ret
 exact ⟨rU, dU⟩

/-! ### slices_IndexFunc_ArrayOk1: function 111 -/
def slices_IndexFunc_ArrayOk1.l0 : Nat → List Int → Int → Int → Option (Int)
 | 0, _, _, _ => none
 | k + 1, x0, x7, x8 => if x8 < x7 then (if 0 ≤ x8 then (if x8 < (x0.length : Int) then ((impl_ArrayOk_lit1.f (rd x0 x8)).bind fun t389 => (if t389 = true then (some x8) else (slices_IndexFunc_ArrayOk1.l0 k x0 x7 (wrap64 (x8 + 1))))) else (none)) else (none)) else (some (-1))
def slices_IndexFunc_ArrayOk1.f (k : Nat) (l0 : List Int) : Option (Int) := slices_IndexFunc_ArrayOk1.l0 k l0 (l0.length : Int) 0
set_option maxHeartbeats 8000000 in
set_option maxRecDepth 100000 in
theorem slices_IndexFunc_ArrayOk1.calls (k : Nat) (A0 : Option Addr) (c0 : Nat) (l0 : List Int) (r : Int) (w : World) (hr0 : Kd.C (Kd.int .i64) w A0 l0.length l0) (hc0 : l0.length ≤ c0) (h : slices_IndexFunc_ArrayOk1.f k l0 = some r) :
  Calls Try.prog 111 #[.slice A0 l0.length c0, .func (.func 79) #[] #[]] w fun e w' => e = .returned (.int .i64 r) ∧ Drawn0 w w' := by
 have HR0 := Aside0.mk hr0
 have HC0 := Aside0.mk hc0
 clear hr0 hc0
 have H : (slices_IndexFunc_ArrayOk1.l0 k l0 (l0.length : Int) 0) = some r := h
 clear h
 have H' := Aside0.mk H
 clear H
 go_enter Try.func111, Try.ntmps111
 go_wp2
 go_loopg [8] k (fun kq v8 w' => ∃ (x8_1 : Int), v8 = .int .i64 x8_1 ∧ Aside0 (slices_IndexFunc_ArrayOk1.l0 kq l0 (l0.length : Int) x8_1 = some r) ∧ Aside0 (kq ≤ k) ∧ Drawn0 w w')
 case atStart => exact ⟨(0), (by first | rfl | (simp; done) | (simp [*]; done)), H', ⟨Nat.le_refl _⟩, by repeat (first | exact Drawn0.refl _ | apply Drawn0.step)⟩
 case round =>
  clear H'
  obtain ⟨x8_1, rfl, HA, HK1, ⟨m1, rfl⟩⟩ := hrel
  cases gk with
  | zero => exact absurd HA.out (by simp [slices_IndexFunc_ArrayOk1.l0])
  | succ k1 =>
   have H := HA.out
   clear HA
   simp only [slices_IndexFunc_ArrayOk1.l0] at H
   by_cases c2 : x8_1 < (l0.length : Int)
   ·
    rw [if_pos c2] at H
    have c2b0 : decide (x8_1 < (l0.length : Int)) = true := decide_eq_true c2
    clear c2
    by_cases c3 : 0 ≤ x8_1
    ·
     rw [if_pos c3] at H
     have c3b0 : decide (0 ≤ x8_1) = true := decide_eq_true c3
     clear c3
     by_cases c4 : x8_1 < (l0.length : Int)
     ·
      rw [if_pos c4] at H
      have c4b0 : decide (x8_1 < (l0.length : Int)) = true := decide_eq_true c4
      clear c4
      replace H := Option.bind_eq_some_iff.mp H
      obtain ⟨t389, A50, H⟩ := H
      replace H : (if t389 = true then (some x8_1) else (slices_IndexFunc_ArrayOk1.l0 k1 l0 (l0.length : Int) (wrap64 (x8_1 + 1)))) = some r := H
      have A5 := Aside0.mk A50
      clear A50
      by_cases c6 : t389 = true
      ·
       subst c6
       have H1 : (some x8_1) = some r := by rw [if_pos rfl] at H; exact H
       clear H
       have H := H1
       clear H1
       obtain rfl := Option.some.inj H
       have p388 : 0 ≤ (x8_1 : Int) := of_decide_eq_true (by first | (with_reducible assumption) | assumption)
       have q388 : x8_1 < (l0.length : Int) := of_decide_eq_true (by first | (with_reducible assumption) | assumption)
       obtain ⟨ad388, e388, hx388_0⟩ := Kd.at_int HR0.out x8_1 p388 q388
       cases e388
       replace p388 := eq_true p388
       replace q388 := eq_true q388
       go_wp2_with (first | (go_at_call 79; (repeat rw [i64_w]); (with_reducible refine (impl_ArrayOk_lit1.calls (rd l0 x8_1) true _ A5.out).mono ?_); rintro e w' ⟨rfl, ⟨nd, rfl⟩⟩))
       go_ret
       exact ⟨rU, dU⟩
      ·
       replace c6 := Bool.eq_false_iff.mpr c6
       subst c6
       have H1 : (slices_IndexFunc_ArrayOk1.l0 k1 l0 (l0.length : Int) (wrap64 (x8_1 + 1))) = some r := by rw [if_neg (show ¬ (false = true) by decide)] at H; exact H
       clear H
       have H := H1
       clear H1
       have H' := Aside0.mk H
       clear H
       have p388 : 0 ≤ (x8_1 : Int) := of_decide_eq_true (by first | (with_reducible assumption) | assumption)
       have q388 : x8_1 < (l0.length : Int) := of_decide_eq_true (by first | (with_reducible assumption) | assumption)
       obtain ⟨ad388, e388, hx388_0⟩ := Kd.at_int HR0.out x8_1 p388 q388
       cases e388
       replace p388 := eq_true p388
       replace q388 := eq_true q388
       go_wp2_with (first | (go_at_call 79; (repeat rw [i64_w]); (with_reducible refine (impl_ArrayOk_lit1.calls (rd l0 x8_1) false _ A5.out).mono ?_); rintro e w' ⟨rfl, ⟨nd, rfl⟩⟩))
       go_roundg k1
       case measure => have := HK1.out; omega
       case rel => exact ⟨(wrap64 (x8_1 + 1)), (by first | rfl | (simp; done) | (simp [*]; done)), H', ⟨by have := HK1.out; omega⟩, by repeat (first | exact Drawn0.refl _ | apply Drawn0.step)⟩
     ·
      rw [if_neg c4] at H
      exact absurd H (by simp)
    ·
     rw [if_neg c3] at H
     exact absurd H (by simp)
   ·
    rw [if_neg c2] at H
    have c2b0 : decide (x8_1 < (l0.length : Int)) = false := decide_eq_false c2
    clear c2
    obtain rfl := Option.some.inj H
    go_wp2
    go_ret
    exact ⟨rU, dU⟩

/-! ### slices_ContainsFunc_ArrayOk1: function 78 -/
def slices_ContainsFunc_ArrayOk1.f (k : Nat) (l0 : List Int) : Option (Bool) := (slices_IndexFunc_ArrayOk1.f k l0).bind fun t390 => (some (decide (t390 ≥ 0)))
set_option maxHeartbeats 8000000 in
set_option maxRecDepth 100000 in
theorem slices_ContainsFunc_ArrayOk1.calls (k : Nat) (A0 : Option Addr) (c0 : Nat) (l0 : List Int) (r : Bool) (w : World) (hr0 : Kd.C (Kd.int .i64) w A0 l0.length l0) (hc0 : l0.length ≤ c0) (h : slices_ContainsFunc_ArrayOk1.f k l0 = some r) :
  Calls Try.prog 78 #[.slice A0 l0.length c0, .func (.func 79) #[] #[]] w fun e w' => e = .returned (.bool r) ∧ Drawn0 w w' := by
 have HR0 := Aside0.mk hr0
 have HC0 := Aside0.mk hc0
 clear hr0 hc0
 have H : ((slices_IndexFunc_ArrayOk1.f k l0).bind fun t390 => (some (decide (t390 ≥ 0)))) = some r := h
 clear h
 replace H := Option.bind_eq_some_iff.mp H
 obtain ⟨t390, A20, H⟩ := H
 replace H : (some (decide (t390 ≥ 0))) = some r := H
 have A2 := Aside0.mk A20
 clear A20
 obtain rfl := Option.some.inj H
 go_enter Try.func78, Try.ntmps78
 go_wp2_with (first | ((with_reducible refine gate_callee (f := 111) rfl ?_); refine goesL_ (some 7) rfl rfl Try.func111 (by kernel_rfl) rfl #[.slice A0 l0.length c0, .func (.func 79) #[] #[]] rfl lU ?_; (with_reducible refine (slices_IndexFunc_ArrayOk1.calls k _ _ l0 t390 _ ?side1 ?side2 A2.out).mono ?_); (case side1 => exact cU HR0.out); (case side2 => exact HC0.out); rintro e w' ⟨rfl, ⟨nd, rfl⟩⟩; refine ⟨_, rfl, ?_⟩))
 go_ret
 exact ⟨rU, dU⟩

/-! ### impl_ArrayOk: function 21 -/
def impl_ArrayOk.f (k : Nat) (l0_0 : List Int) (l0_1 : List Int) : Option (Bool) := (impl_SizeOf.f k l0_0).bind fun t392 => (if (l0_1.length : Int) = t392 then ((slices_ContainsFunc_ArrayOk1.f k l0_1).bind fun t393 => (some (!t393))) else (some false))
set_option maxHeartbeats 8000000 in
set_option maxRecDepth 100000 in
theorem impl_ArrayOk.calls (k : Nat) (A0_0 : Option Addr) (c0_0 : Nat) (l0_0 : List Int) (A0_1 : Option Addr) (c0_1 : Nat) (l0_1 : List Int) (r : Bool) (w : World) (hr0_0 : Kd.C (Kd.int .i64) w A0_0 l0_0.length l0_0) (hc0_0 : l0_0.length ≤ c0_0) (hr0_1 : Kd.C (Kd.int .i64) w A0_1 l0_1.length l0_1) (hc0_1 : l0_1.length ≤ c0_1) (h : impl_ArrayOk.f k l0_0 l0_1 = some r) :
  Calls Try.prog 21 #[.agg #[.slice A0_0 l0_0.length c0_0, .slice A0_1 l0_1.length c0_1]] w fun e w' => e = .returned (.bool r) ∧ Below w.heap.size w w' := by
 have hu26 := Try.underlying26
 have HR0_0 := Aside0.mk hr0_0
 have HC0_0 := Aside0.mk hc0_0
 clear hr0_0 hc0_0
 have HR0_1 := Aside0.mk hr0_1
 have HC0_1 := Aside0.mk hc0_1
 clear hr0_1 hc0_1
 have HB := Aside0.mk (Below.refl w.heap.size w)
 have H : ((impl_SizeOf.f k l0_0).bind fun t392 => (if (l0_1.length : Int) = t392 then ((slices_ContainsFunc_ArrayOk1.f k l0_1).bind fun t393 => (some (!t393))) else (some false))) = some r := h
 clear h
 replace H := Option.bind_eq_some_iff.mp H
 obtain ⟨t392, A20, H⟩ := H
 replace H : (if (l0_1.length : Int) = t392 then ((slices_ContainsFunc_ArrayOk1.f k l0_1).bind fun t393 => (some (!t393))) else (some false)) = some r := H
 have A2 := Aside0.mk A20
 clear A20
 by_cases c3 : (l0_1.length : Int) = t392
 ·
  rw [if_pos c3] at H
  have c3b0 : ((l0_1.length : Int) == t392) = true := beq_iff_eq.mpr c3
  have c3b1 : ((l0_1.length : Int) != t392) = false := bne_eq_false_iff_eq.mpr c3
  clear c3
  replace H := Option.bind_eq_some_iff.mp H
  obtain ⟨t393, A40, H⟩ := H
  replace H : (some (!t393)) = some r := H
  have A4 := Aside0.mk A40
  clear A40
  obtain rfl := Option.some.inj H
  go_enter Try.func21, Try.ntmps21
  go_wp2_with (first | ((with_reducible refine gate_dst (N := 1) rfl ?_); refine box_event ?hg (N := 1) ?hd (cs := #[.slice A0_0 l0_0.length c0_0, .slice A0_1 l0_1.length c0_1]) (t := 26) ?hr ?_; (case hd => rfl); (case hg => rfl); (case hr => first | (go_simp; done) | (go_simp; rfl)); intro gb391 hg w5 hbox hb; have BK391 := Aside0.mk (hbox); have GW391 := Aside0.mk ((by rw [hg]; exact (below_size (bU HB.out)) : w.heap.size ≤ gb391)); have GE391 := Aside0.mk ((by rw [hg]; exact (below_size (bU HB.out)) : w.heap.size ≤ gb391)); replace HB := Aside0.mk (below_step (bU HB.out) hb); clear hb hbox hg; have hcz6_0 : w5.cell? ⟨gb391, 0, none⟩ = some (.slice A0_0 l0_0.length c0_0) := (blk_cell BK391.out 0).trans rfl; have hcz6_1 : w5.cell? ⟨gb391, 1, none⟩ = some (.slice A0_1 l0_1.length c0_1) := (blk_cell BK391.out 1).trans rfl; have hfz6_0 := blk_frozen BK391.out 0; have hfz6_1 := blk_frozen BK391.out 1) | (go_at_call 44; (repeat rw [i64_w]); (with_reducible refine (impl_SizeOf.calls k _ _ l0_0 t392 _ ?side1 ?side2 A2.out).mono ?_); (case side1 => exact cU (Kd.C_below HR0_0.out HB.out)); (case side2 => exact HC0_0.out); rintro e w' ⟨rfl, ⟨nd, rfl⟩⟩; (try exact qU)) | (go_at_call 78; (repeat rw [i64_w]); (with_reducible refine (slices_ContainsFunc_ArrayOk1.calls k _ _ l0_1 t393 _ ?side1 ?side2 A4.out).mono ?_); (case side1 => repeat (first | exact (Kd.C_below HR0_1.out (bS1 HB.out GE391.out)) | (with_reducible refine Kd.C_alloc ?_ _) | (with_reducible refine Kd.C_drewN ?_ _) | (with_reducible refine Kd.C_drew ?_))); (case side2 => exact HC0_1.out); rintro e w' ⟨rfl, ⟨nd, rfl⟩⟩; (try exact qU)))
  repeat (go_quiet (first | (go_at_call 44; (repeat rw [i64_w]); (with_reducible refine (impl_SizeOf.calls k _ _ l0_0 t392 _ ?side1 ?side2 A2.out).mono ?_); (case side1 => exact cU (Kd.C_below HR0_0.out HB.out)); (case side2 => exact HC0_0.out); rintro e w' ⟨rfl, ⟨nd, rfl⟩⟩; (try exact qU)) | (go_at_call 78; (repeat rw [i64_w]); (with_reducible refine (slices_ContainsFunc_ArrayOk1.calls k _ _ l0_1 t393 _ ?side1 ?side2 A4.out).mono ?_); (case side1 => repeat (first | exact (Kd.C_below HR0_1.out (bS1 HB.out GE391.out)) | (with_reducible refine Kd.C_alloc ?_ _) | (with_reducible refine Kd.C_drewN ?_ _) | (with_reducible refine Kd.C_drew ?_))); (case side2 => exact HC0_1.out); rintro e w' ⟨rfl, ⟨nd, rfl⟩⟩; (try exact qU))); try go_wp2_with (first | ((with_reducible refine gate_dst (N := 1) rfl ?_); refine box_event ?hg (N := 1) ?hd (cs := #[.slice A0_0 l0_0.length c0_0, .slice A0_1 l0_1.length c0_1]) (t := 26) ?hr ?_; (case hd => rfl); (case hg => rfl); (case hr => first | (go_simp; done) | (go_simp; rfl)); intro gb391 hg w5 hbox hb; have BK391 := Aside0.mk (hbox); have GW391 := Aside0.mk ((by rw [hg]; exact (below_size (bU HB.out)) : w.heap.size ≤ gb391)); have GE391 := Aside0.mk ((by rw [hg]; exact (below_size (bU HB.out)) : w.heap.size ≤ gb391)); replace HB := Aside0.mk (below_step (bU HB.out) hb); clear hb hbox hg; have hcz6_0 : w5.cell? ⟨gb391, 0, none⟩ = some (.slice A0_0 l0_0.length c0_0) := (blk_cell BK391.out 0).trans rfl; have hcz6_1 : w5.cell? ⟨gb391, 1, none⟩ = some (.slice A0_1 l0_1.length c0_1) := (blk_cell BK391.out 1).trans rfl; have hfz6_0 := blk_frozen BK391.out 0; have hfz6_1 := blk_frozen BK391.out 1) | (go_at_call 44; (repeat rw [i64_w]); (with_reducible refine (impl_SizeOf.calls k _ _ l0_0 t392 _ ?side1 ?side2 A2.out).mono ?_); (case side1 => exact cU (Kd.C_below HR0_0.out HB.out)); (case side2 => exact HC0_0.out); rintro e w' ⟨rfl, ⟨nd, rfl⟩⟩; (try exact qU)) | (go_at_call 78; (repeat rw [i64_w]); (with_reducible refine (slices_ContainsFunc_ArrayOk1.calls k _ _ l0_1 t393 _ ?side1 ?side2 A4.out).mono ?_); (case side1 => repeat (first | exact (Kd.C_below HR0_1.out (bS1 HB.out GE391.out)) | (with_reducible refine Kd.C_alloc ?_ _) | (with_reducible refine Kd.C_drewN ?_ _) | (with_reducible refine Kd.C_drew ?_))); (case side2 => exact HC0_1.out); rintro e w' ⟨rfl, ⟨nd, rfl⟩⟩; (try exact qU))))
  go_ret
  exact ⟨by first | rfl | (simp [errW_none, errW_some] <;> rfl) | (simp [*, errW_none, errW_some] <;> rfl), by exact bS1 HB.out GE391.out⟩
 ·
  rw [if_neg c3] at H
  have c3b0 : ((l0_1.length : Int) == t392) = false := beq_eq_false_iff_ne.mpr c3
  have c3b1 : ((l0_1.length : Int) != t392) = true := bne_iff_ne.mpr c3
  obtain rfl := Option.some.inj H
  go_enter Try.func21, Try.ntmps21
  go_wp2_with (first | ((with_reducible refine gate_dst (N := 1) rfl ?_); refine box_event ?hg (N := 1) ?hd (cs := #[.slice A0_0 l0_0.length c0_0, .slice A0_1 l0_1.length c0_1]) (t := 26) ?hr ?_; (case hd => rfl); (case hg => rfl); (case hr => first | (go_simp; done) | (go_simp; rfl)); intro gb391 hg w7 hbox hb; have BK391 := Aside0.mk (hbox); have GW391 := Aside0.mk ((by rw [hg]; exact (below_size (bU HB.out)) : w.heap.size ≤ gb391)); have GE391 := Aside0.mk ((by rw [hg]; exact (below_size (bU HB.out)) : w.heap.size ≤ gb391)); replace HB := Aside0.mk (below_step (bU HB.out) hb); clear hb hbox hg; have hcz8_0 : w7.cell? ⟨gb391, 0, none⟩ = some (.slice A0_0 l0_0.length c0_0) := (blk_cell BK391.out 0).trans rfl; have hcz8_1 : w7.cell? ⟨gb391, 1, none⟩ = some (.slice A0_1 l0_1.length c0_1) := (blk_cell BK391.out 1).trans rfl; have hfz8_0 := blk_frozen BK391.out 0; have hfz8_1 := blk_frozen BK391.out 1) | (go_at_call 44; (repeat rw [i64_w]); (with_reducible refine (impl_SizeOf.calls k _ _ l0_0 t392 _ ?side1 ?side2 A2.out).mono ?_); (case side1 => exact cU (Kd.C_below HR0_0.out HB.out)); (case side2 => exact HC0_0.out); rintro e w' ⟨rfl, ⟨nd, rfl⟩⟩; (try exact qU)))
  repeat (go_quiet ((go_at_call 44; (repeat rw [i64_w]); (with_reducible refine (impl_SizeOf.calls k _ _ l0_0 t392 _ ?side1 ?side2 A2.out).mono ?_); (case side1 => exact cU (Kd.C_below HR0_0.out HB.out)); (case side2 => exact HC0_0.out); rintro e w' ⟨rfl, ⟨nd, rfl⟩⟩; (try exact qU))); try go_wp2_with (first | ((with_reducible refine gate_dst (N := 1) rfl ?_); refine box_event ?hg (N := 1) ?hd (cs := #[.slice A0_0 l0_0.length c0_0, .slice A0_1 l0_1.length c0_1]) (t := 26) ?hr ?_; (case hd => rfl); (case hg => rfl); (case hr => first | (go_simp; done) | (go_simp; rfl)); intro gb391 hg w7 hbox hb; have BK391 := Aside0.mk (hbox); have GW391 := Aside0.mk ((by rw [hg]; exact (below_size (bU HB.out)) : w.heap.size ≤ gb391)); have GE391 := Aside0.mk ((by rw [hg]; exact (below_size (bU HB.out)) : w.heap.size ≤ gb391)); replace HB := Aside0.mk (below_step (bU HB.out) hb); clear hb hbox hg; have hcz8_0 : w7.cell? ⟨gb391, 0, none⟩ = some (.slice A0_0 l0_0.length c0_0) := (blk_cell BK391.out 0).trans rfl; have hcz8_1 : w7.cell? ⟨gb391, 1, none⟩ = some (.slice A0_1 l0_1.length c0_1) := (blk_cell BK391.out 1).trans rfl; have hfz8_0 := blk_frozen BK391.out 0; have hfz8_1 := blk_frozen BK391.out 1) | (go_at_call 44; (repeat rw [i64_w]); (with_reducible refine (impl_SizeOf.calls k _ _ l0_0 t392 _ ?side1 ?side2 A2.out).mono ?_); (case side1 => exact cU (Kd.C_below HR0_0.out HB.out)); (case side2 => exact HC0_0.out); rintro e w' ⟨rfl, ⟨nd, rfl⟩⟩; (try exact qU))))
  go_ret
  exact ⟨by first | rfl | (simp [errW_none, errW_some] <;> rfl) | (simp [*, errW_none, errW_some] <;> rfl), by exact bS1 HB.out GE391.out⟩

/-! ### slices_Equal_int_int: function 77 -/
def slices_Equal_int_int.l0 : Nat → List Int → List Int → Int → Int → Option (Bool)
 | 0, _, _, _, _ => none
 | k + 1, x0, x1, x12, x13 => if x13 < x12 then (if 0 ≤ x13 then (if x13 < (x0.length : Int) then (if x13 < (x1.length : Int) then (if (rd x0 x13) = (rd x1 x13) then (slices_Equal_int_int.l0 k x0 x1 x12 (wrap64 (x13 + 1))) else (some false)) else (none)) else (none)) else (none)) else (some true)
def slices_Equal_int_int.f (k : Nat) (l0 : List Int) (l1 : List Int) : Option (Bool) := if (l0.length : Int) = (l1.length : Int) then (slices_Equal_int_int.l0 k l0 l1 (l0.length : Int) 0) else (some false)
set_option maxHeartbeats 8000000 in
set_option maxRecDepth 100000 in
theorem slices_Equal_int_int.calls (k : Nat) (A0 : Option Addr) (c0 : Nat) (l0 : List Int) (A1 : Option Addr) (c1 : Nat) (l1 : List Int) (r : Bool) (w : World) (hr0 : Kd.C (Kd.int .i64) w A0 l0.length l0) (hc0 : l0.length ≤ c0) (hr1 : Kd.C (Kd.int .i64) w A1 l1.length l1) (hc1 : l1.length ≤ c1) (h : slices_Equal_int_int.f k l0 l1 = some r) :
  Calls Try.prog 77 #[.slice A0 l0.length c0, .slice A1 l1.length c1] w fun e w' => e = .returned (.bool r) ∧ Drawn0 w w' := by
 have HR0 := Aside0.mk hr0
 have HC0 := Aside0.mk hc0
 clear hr0 hc0
 have HR1 := Aside0.mk hr1
 have HC1 := Aside0.mk hc1
 clear hr1 hc1
 have H : (if (l0.length : Int) = (l1.length : Int) then (slices_Equal_int_int.l0 k l0 l1 (l0.length : Int) 0) else (some false)) = some r := h
 clear h
 by_cases c3 : (l0.length : Int) = (l1.length : Int)
 ·
  rw [if_pos c3] at H
  have c3b0 : ((l0.length : Int) == (l1.length : Int)) = true := beq_iff_eq.mpr c3
  have c3b1 : ((l0.length : Int) != (l1.length : Int)) = false := bne_eq_false_iff_eq.mpr c3
  have c3b2 : (l0.length == l1.length) = true := by first | simpa using c3 | (simp at c3 ⊢; omega)
  clear c3
  have H' := Aside0.mk H
  clear H
  go_enter Try.func77, Try.ntmps77
  go_wp2
  repeat (go_quiet (fail); try go_wp2)
  go_loopg [13] k (fun kq v13 w' => ∃ (x13_1 : Int), v13 = .int .i64 x13_1 ∧ Aside0 (slices_Equal_int_int.l0 kq l0 l1 (l0.length : Int) x13_1 = some r) ∧ Aside0 (kq ≤ k) ∧ Drawn0 w w')
  case atStart => exact ⟨(0), (by first | rfl | (simp; done) | (simp [*]; done)), H', ⟨Nat.le_refl _⟩, by repeat (first | exact Drawn0.refl _ | apply Drawn0.step)⟩
  case round =>
   clear H'
   try clear c1
   try clear p2
   try clear c3
   try clear c3b0
   try clear c3b1
   try clear c3b2
   obtain ⟨x13_1, rfl, HA, HK1, ⟨m1, rfl⟩⟩ := hrel
   cases gk with
   | zero => exact absurd HA.out (by simp [slices_Equal_int_int.l0])
   | succ k1 =>
    have H := HA.out
    clear HA
    simp only [slices_Equal_int_int.l0] at H
    by_cases c4 : x13_1 < (l0.length : Int)
    ·
     rw [if_pos c4] at H
     have c4b0 : decide (x13_1 < (l0.length : Int)) = true := decide_eq_true c4
     clear c4
     by_cases c5 : 0 ≤ x13_1
     ·
      rw [if_pos c5] at H
      have c5b0 : decide (0 ≤ x13_1) = true := decide_eq_true c5
      clear c5
      by_cases c6 : x13_1 < (l0.length : Int)
      ·
       rw [if_pos c6] at H
       have c6b0 : decide (x13_1 < (l0.length : Int)) = true := decide_eq_true c6
       clear c6
       by_cases c7 : x13_1 < (l1.length : Int)
       ·
        rw [if_pos c7] at H
        have c7b0 : decide (x13_1 < (l1.length : Int)) = true := decide_eq_true c7
        clear c7
        by_cases c8 : (rd l0 x13_1) = (rd l1 x13_1)
        ·
         rw [if_pos c8] at H
         have c8b0 : ((rd l0 x13_1) == (rd l1 x13_1)) = true := beq_iff_eq.mpr c8
         have c8b1 : ((rd l0 x13_1) != (rd l1 x13_1)) = false := bne_eq_false_iff_eq.mpr c8
         clear c8
         have H' := Aside0.mk H
         clear H
         have p394 : 0 ≤ (x13_1 : Int) := of_decide_eq_true (by first | (with_reducible assumption) | assumption)
         have q394 : x13_1 < (l0.length : Int) := of_decide_eq_true (by first | (with_reducible assumption) | assumption)
         obtain ⟨ad394, e394, hx394_0⟩ := Kd.at_int HR0.out x13_1 p394 q394
         cases e394
         replace p394 := eq_true p394
         replace q394 := eq_true q394
         have p395 : 0 ≤ (x13_1 : Int) := of_decide_eq_true (by first | (with_reducible assumption) | assumption)
         have q395 : x13_1 < (l1.length : Int) := of_decide_eq_true (by first | (with_reducible assumption) | assumption)
         obtain ⟨ad395, e395, hx395_0⟩ := Kd.at_int HR1.out x13_1 p395 q395
         cases e395
         replace p395 := eq_true p395
         replace q395 := eq_true q395
         go_wp2
         repeat (go_quiet (fail); try go_wp2)
         go_roundg k1
         case measure => have := HK1.out; omega
         case rel => exact ⟨(wrap64 (x13_1 + 1)), (by first | rfl | (simp; done) | (simp [*]; done)), H', ⟨by have := HK1.out; omega⟩, by repeat (first | exact Drawn0.refl _ | apply Drawn0.step)⟩
        ·
         rw [if_neg c8] at H
         have c8b0 : ((rd l0 x13_1) == (rd l1 x13_1)) = false := beq_eq_false_iff_ne.mpr c8
         have c8b1 : ((rd l0 x13_1) != (rd l1 x13_1)) = true := bne_iff_ne.mpr c8
         obtain rfl := Option.some.inj H
         have p394 : 0 ≤ (x13_1 : Int) := of_decide_eq_true (by first | (with_reducible assumption) | assumption)
         have q394 : x13_1 < (l0.length : Int) := of_decide_eq_true (by first | (with_reducible assumption) | assumption)
         obtain ⟨ad394, e394, hx394_0⟩ := Kd.at_int HR0.out x13_1 p394 q394
         cases e394
         replace p394 := eq_true p394
         replace q394 := eq_true q394
         have p395 : 0 ≤ (x13_1 : Int) := of_decide_eq_true (by first | (with_reducible assumption) | assumption)
         have q395 : x13_1 < (l1.length : Int) := of_decide_eq_true (by first | (with_reducible assumption) | assumption)
         obtain ⟨ad395, e395, hx395_0⟩ := Kd.at_int HR1.out x13_1 p395 q395
         cases e395
         replace p395 := eq_true p395
         replace q395 := eq_true q395
         go_wp2
         repeat (go_quiet (fail); try go_wp2)
         go_ret
         exact ⟨rU, dU⟩
       ·
        rw [if_neg c7] at H
        exact absurd H (by simp)
      ·
       rw [if_neg c6] at H
       exact absurd H (by simp)
     ·
      rw [if_neg c5] at H
      exact absurd H (by simp)
    ·
     rw [if_neg c4] at H
     have c4b0 : decide (x13_1 < (l0.length : Int)) = false := decide_eq_false c4
     clear c4
     obtain rfl := Option.some.inj H
     go_wp2
     repeat (go_quiet (fail); try go_wp2)
     go_ret
     exact ⟨rU, dU⟩
 ·
  rw [if_neg c3] at H
  have c3b0 : ((l0.length : Int) == (l1.length : Int)) = false := beq_eq_false_iff_ne.mpr c3
  have c3b1 : ((l0.length : Int) != (l1.length : Int)) = true := bne_iff_ne.mpr c3
  have c3b2 : (l0.length == l1.length) = false := by first | simpa using c3 | (simp at c3 ⊢; omega)
  obtain rfl := Option.some.inj H
  go_enter Try.func77, Try.ntmps77
  go_wp2
  repeat (go_quiet (fail); try go_wp2)
  go_ret
  exact ⟨rU, dU⟩

/-! ### impl_Fit: function 19 -/
def impl_Fit.j0 : Nat → List Int → Bool → List Int → List Int → List Int → List Int → Option (List Int × Int)
 | 0, _, _, _, _, _, _ => none
 | k + 1, x6, x10, x397000, x397001, x398000, x398001 => if x10 = true then (some (([] : List Int), 1)) else (if (x397000.length : Int) = 0 then (if ([] : List Int).length + x398000.length < 17592186044416 then (some ((([] : List Int) ++ x398000), 0)) else (none)) else (if (x398000.length : Int) = 0 then (some (x6, 0)) else (if (x397000.length : Int) = (x398000.length : Int) then ((slices_Equal_int_int.f k x397000 x398000).bind fun t406 => (if t406 = true then (some (x6, 0)) else (some (([] : List Int), 3)))) else (some (([] : List Int), 4)))))
def impl_Fit.f (k : Nat) (l0_0 : List Int) (l0_1 : List Int) (l1_0 : List Int) (l1_1 : List Int) : Option (List Int × Int) := if ([] : List Int).length + l0_0.length < 17592186044416 then ((some (([] : List Int) ++ l0_0 : List Int)).bind fun y398 => ((impl_ArrayOk.f k l0_0 l0_1).bind fun t401 => (if t401 = true then ((impl_ArrayOk.f k l1_0 l1_1).bind fun t402 => (impl_Fit.j0 k y398 (!t402) l0_0 l0_1 l1_0 l1_1)) else (impl_Fit.j0 k y398 true l0_0 l0_1 l1_0 l1_1)))) else (none)
set_option maxHeartbeats 8000000 in
set_option maxRecDepth 100000 in
theorem impl_Fit.calls (k : Nat) (A0_0 : Option Addr) (c0_0 : Nat) (l0_0 : List Int) (A0_1 : Option Addr) (c0_1 : Nat) (l0_1 : List Int) (A1_0 : Option Addr) (c1_0 : Nat) (l1_0 : List Int) (A1_1 : Option Addr) (c1_1 : Nat) (l1_1 : List Int) (r1 : List Int) (r2 : Int) (w : World) (hr0_0 : Kd.C (Kd.int .i64) w A0_0 l0_0.length l0_0) (hc0_0 : l0_0.length ≤ c0_0) (hr0_1 : Kd.C (Kd.int .i64) w A0_1 l0_1.length l0_1) (hc0_1 : l0_1.length ≤ c0_1) (hr1_0 : Kd.C (Kd.int .i64) w A1_0 l1_0.length l1_0) (hc1_0 : l1_0.length ≤ c1_0) (hr1_1 : Kd.C (Kd.int .i64) w A1_1 l1_1.length l1_1) (hc1_1 : l1_1.length ≤ c1_1) (h : impl_Fit.f k l0_0 l0_1 l1_0 l1_1 = some (r1, r2)) :
  Calls Try.prog 19 #[.agg #[.slice A0_0 l0_0.length c0_0, .slice A0_1 l0_1.length c0_1], .agg #[.slice A1_0 l1_0.length c1_0, .slice A1_1 l1_1.length c1_1]] w fun e w' => ∃ v0_ : Value, e = .returned (.tuple #[v0_, .int .i64 r2]) ∧ Kd.R (Kd.int .i64) 3 w' w.heap.size (fun _ => True) v0_ r1 ∧ Below w.heap.size w w' := by
 have hu26 := Try.underlying26
 have HR0_0 := Aside0.mk hr0_0
 have HC0_0 := Aside0.mk hc0_0
 clear hr0_0 hc0_0
 have HR0_1 := Aside0.mk hr0_1
 have HC0_1 := Aside0.mk hc0_1
 clear hr0_1 hc0_1
 have HR1_0 := Aside0.mk hr1_0
 have HC1_0 := Aside0.mk hc1_0
 clear hr1_0 hc1_0
 have HR1_1 := Aside0.mk hr1_1
 have HC1_1 := Aside0.mk hc1_1
 clear hr1_1 hc1_1
 have HB := Aside0.mk (Below.refl w.heap.size w)
 have H : (if ([] : List Int).length + l0_0.length < 17592186044416 then ((some (([] : List Int) ++ l0_0 : List Int)).bind fun y398 => ((impl_ArrayOk.f k l0_0 l0_1).bind fun t401 => (if t401 = true then ((impl_ArrayOk.f k l1_0 l1_1).bind fun t402 => (impl_Fit.j0 k y398 (!t402) l0_0 l0_1 l1_0 l1_1)) else (impl_Fit.j0 k y398 true l0_0 l0_1 l1_0 l1_1)))) else (none)) = some (r1, r2) := h
 clear h
 by_cases c3 : ([] : List Int).length + l0_0.length < 17592186044416
 ·
  rw [if_pos c3] at H
  have LMc3 := Aside0.mk c3
  clear c3
  obtain ⟨y398, hy398⟩ : ∃ y_ : List Int, y_ = (([] : List Int) ++ l0_0) := ⟨_, rfl⟩
  replace H : ((impl_ArrayOk.f k l0_0 l0_1).bind fun t401 => (if t401 = true then ((impl_ArrayOk.f k l1_0 l1_1).bind fun t402 => (impl_Fit.j0 k y398 (!t402) l0_0 l0_1 l1_0 l1_1)) else (impl_Fit.j0 k y398 true l0_0 l0_1 l1_0 l1_1))) = some (r1, r2) := by first | (rw [hy398]; with_reducible exact H) | (have H2_ := (Option.bind_some _ _).symm.trans H; rw [hy398]; with_reducible exact H2_) | (have H2_ := (Option.bind_some _ _).symm.trans H; with_reducible exact H2_) | with_reducible exact H | (rw [hy398]; exact H) | exact H
  have Ny398 := Aside0.mk hy398
  clear hy398
  have HC4 := Aside0.mk H
  clear H
  go_enter Try.func19, Try.ntmps19
  go_upto_region 2 with (first | ((with_reducible refine gate_dst (N := 2) rfl ?_); refine box_event ?hg (N := 2) ?hd (cs := #[.slice A0_0 l0_0.length c0_0, .slice A0_1 l0_1.length c0_1]) (t := 26) ?hr ?_; (case hd => rfl); (case hg => rfl); (case hr => first | (go_simp; done) | (go_simp; rfl)); intro gb396 hg w5 hbox hb; have BK396 := Aside0.mk (hbox); have GW396 := Aside0.mk ((by rw [hg]; exact (below_size (bU HB.out)) : w.heap.size ≤ gb396)); have GE396 := Aside0.mk ((by rw [hg]; exact (below_size (bU HB.out)) : w.heap.size ≤ gb396)); replace HB := Aside0.mk (below_step (bU HB.out) hb); clear hb hbox hg) | ((with_reducible refine gate_dst (N := 3) rfl ?_); refine box_event ?hg (N := 3) ?hd (cs := #[.slice A1_0 l1_0.length c1_0, .slice A1_1 l1_1.length c1_1]) (t := 26) ?hr ?_; (case hd => rfl); (case hg => rfl); (case hr => first | (go_simp; done) | (go_simp; rfl)); intro gb397 hg w6 hbox hb; have BK397 := Aside0.mk (hbox); have GW397 := Aside0.mk ((by rw [hg]; exact (below_size (bS1 HB.out GE396.out)) : w.heap.size ≤ gb397)); have GE397 := Aside0.mk ((by rw [hg]; exact (below_size (bS1 HB.out GE396.out)) : w.heap.size ≤ gb397)); replace HB := Aside0.mk (below_step (bS1 HB.out GE396.out) hb); have NB396_397 := Aside0.mk ((by rw [hg]; exact Nat.ne_of_lt (blk_lt (g := gb396) (o := .cells #[.slice A0_0 l0_0.length c0_0, .slice A0_1 l0_1.length c0_1] 26 (0, 0)) (kU BK396.out)) : gb396 ≠ gb397)); have NB397_396 := Aside0.mk ((by rw [hg]; exact Nat.ne_of_gt (blk_lt (g := gb396) (o := .cells #[.slice A0_0 l0_0.length c0_0, .slice A0_1 l0_1.length c0_1] 26 (0, 0)) (kU BK396.out)) : gb397 ≠ gb396)); replace BK396 := Aside0.mk (blk_below (g := gb396) (o := .cells #[.slice A0_0 l0_0.length c0_0, .slice A0_1 l0_1.length c0_1] 26 (0, 0)) (kU BK396.out) hb); clear hb hbox hg; have hnb7 := NB396_397.out; have hnc7 := NB397_396.out; have hcz8_0 : w6.cell? ⟨gb396, 0, none⟩ = some (.slice A0_0 l0_0.length c0_0) := (blk_cell BK396.out 0).trans rfl; have hcz8_1 : w6.cell? ⟨gb396, 1, none⟩ = some (.slice A0_1 l0_1.length c0_1) := (blk_cell BK396.out 1).trans rfl; have hfz8_0 := blk_frozen BK396.out 0; have hfz8_1 := blk_frozen BK396.out 1) | ((with_reducible refine gate_builtin (b := .append) (xs := #[.const (.slice none 0 0), .tmp 8]) rfl ?_); at_builtin; refine Kd.R_append_rows (Kd.int .i64) (w0 := w) w.heap.size rfl (.const (.slice none 0 0)) (.tmp 8) 24 3 (.int .i64 0) 8 rfl Try.underlying24 info3 rfl (by decide) (by omega) (.slice none 0 0) ([] : List Int) l0_0 _ _ _ (fun _ => True) (fun _ => False) rfl rfl ?aO ?aR (fun _ _ h => h) (fun _ h => h.elim) ?aF ?aB ?aS ?aL ?_; (case aR => exact cU (Kd.C_below HR0_0.out HB.out)); (case aB => exact (bS2 HB.out GE396.out GE397.out)); (case aF => exact (fun _ _ => trivial)); (case aO => exact ((Kd.R_nil _ _ _ _ (fun _ => True)))); (case aS => exact (below_size (bS2 HB.out GE396.out GE397.out))); (case aL => have := LMc3.out; omega); intro v399 w9 ho hb hg hat; rw [← Ny398.out] at ho; replace BK396 := Aside0.mk (blk_grown (g := gb396) (o := .cells #[.slice A0_0 l0_0.length c0_0, .slice A0_1 l0_1.length c0_1] 26 (0, 0)) (kU BK396.out) hg (by simp [Value.ownBlock])); replace BK397 := Aside0.mk (blk_grown (g := gb397) (o := .cells #[.slice A1_0 l1_0.length c1_0, .slice A1_1 l1_1.length c1_1] 26 (0, 0)) (kU BK397.out) hg (by simp [Value.ownBlock])); replace HB := Aside0.mk (hb); have HO400 := Aside0.mk (ho); clear ho hb hg hat))
  (try simp only [Act.put, List.setIfInBounds_toArray, List.set_cons_zero, List.set_cons_succ])
  go_cut [10] (fun v10 wc => ∃ (kq : Nat) (x10_3 : Bool), v10 = .bool x10_3 ∧ Aside0 (impl_Fit.j0 kq y398 x10_3 l0_0 l0_1 l1_0 l1_1 = some (r1, r2)) ∧ Aside0 (kq ≤ k) ∧ Aside0 (Kd.R (Kd.int .i64) 3 wc w.heap.size (fun _ => True) v399 y398) ∧ Aside0 (wc.heap[gb396]? = some (.cells #[(.slice A0_0 l0_0.length c0_0), (.slice A0_1 l0_1.length c0_1)] 26 (0, 0))) ∧ Aside0 (wc.heap[gb397]? = some (.cells #[(.slice A1_0 l1_0.length c1_0), (.slice A1_1 l1_1.length c1_1)] 26 (0, 0))) ∧ Aside0 (Below w.heap.size w wc))
  case first =>
   have H := HC4.out
   clear HC4
   replace H := Option.bind_eq_some_iff.mp H
   obtain ⟨t401, A100, H⟩ := H
   replace H : (if t401 = true then ((impl_ArrayOk.f k l1_0 l1_1).bind fun t402 => (impl_Fit.j0 k y398 (!t402) l0_0 l0_1 l1_0 l1_1)) else (impl_Fit.j0 k y398 true l0_0 l0_1 l1_0 l1_1)) = some (r1, r2) := H
   have A10 := Aside0.mk A100
   clear A100
   by_cases c11 : t401 = true
   ·
    subst c11
    have H1 : ((impl_ArrayOk.f k l1_0 l1_1).bind fun t402 => (impl_Fit.j0 k y398 (!t402) l0_0 l0_1 l1_0 l1_1)) = some (r1, r2) := by rw [if_pos rfl] at H; exact H
    clear H
    have H := H1
    clear H1
    replace H := Option.bind_eq_some_iff.mp H
    obtain ⟨t402, A120, H⟩ := H
    replace H : (impl_Fit.j0 k y398 (!t402) l0_0 l0_1 l1_0 l1_1) = some (r1, r2) := H
    have A12 := Aside0.mk A120
    clear A120
    have H' := Aside0.mk H
    clear H
    have hnb13 := NB396_397.out
    have hnc13 := NB397_396.out
    have hcz14_0 : w9.cell? ⟨gb396, 0, none⟩ = some (.slice A0_0 l0_0.length c0_0) := (blk_cell BK396.out 0).trans rfl
    have hcz14_1 : w9.cell? ⟨gb396, 1, none⟩ = some (.slice A0_1 l0_1.length c0_1) := (blk_cell BK396.out 1).trans rfl
    have hfz14_0 := blk_frozen BK396.out 0
    have hfz14_1 := blk_frozen BK396.out 1
    go_wp2_with (first | ((with_reducible refine gate_callee (f := 21) rfl ?_); refine goesL_ (some 12) rfl rfl Try.func21 (by kernel_rfl) rfl #[.agg #[.slice A0_0 l0_0.length c0_0, .slice A0_1 l0_1.length c0_1]] rfl lU ?_; (with_reducible refine (impl_ArrayOk.calls k _ _ l0_0 _ _ l0_1 true _ ?side1 ?side2 ?side3 ?side4 A10.out).mono ?_); (case side1 => exact cU (Kd.C_below HR0_0.out HB.out)); (case side2 => exact HC0_0.out); (case side3 => exact cU (Kd.C_below HR0_1.out HB.out)); (case side4 => exact HC0_1.out); rintro e w15 ⟨rfl, hb⟩; refine ⟨_, rfl, ?_⟩; replace HO400 := Aside0.mk (Kd.R_below (RU HO400.out) hb); replace BK396 := Aside0.mk (blk_below (g := gb396) (o := .cells #[.slice A0_0 l0_0.length c0_0, .slice A0_1 l0_1.length c0_1] 26 (0, 0)) (kU BK396.out) hb); replace BK397 := Aside0.mk (blk_below (g := gb397) (o := .cells #[.slice A1_0 l1_0.length c1_0, .slice A1_1 l1_1.length c1_1] 26 (0, 0)) (kU BK397.out) hb); replace HB := Aside0.mk (below_step (bS2 HB.out GE396.out GE397.out) hb); (try clear hb); (try clear hb2); (try clear hk); (try clear hi); have hcz16_0 : w15.cell? ⟨gb397, 0, none⟩ = some (.slice A1_0 l1_0.length c1_0) := (blk_cell BK397.out 0).trans rfl; have hcz16_1 : w15.cell? ⟨gb397, 1, none⟩ = some (.slice A1_1 l1_1.length c1_1) := (blk_cell BK397.out 1).trans rfl; have hfz16_0 := blk_frozen BK397.out 0; have hfz16_1 := blk_frozen BK397.out 1) | (go_at_call 21; (repeat rw [i64_w]); (with_reducible refine (impl_ArrayOk.calls k _ _ l1_0 _ _ l1_1 t402 _ ?side1 ?side2 ?side3 ?side4 A12.out).mono ?_); (case side1 => exact cU (Kd.C_below HR1_0.out HB.out)); (case side2 => exact HC1_0.out); (case side3 => exact cU (Kd.C_below HR1_1.out HB.out)); (case side4 => exact HC1_1.out); rintro e w17 ⟨rfl, hb⟩; replace HO400 := Aside0.mk (Kd.R_below (RU HO400.out) hb); replace BK396 := Aside0.mk (blk_below (g := gb396) (o := .cells #[.slice A0_0 l0_0.length c0_0, .slice A0_1 l0_1.length c0_1] 26 (0, 0)) (kU BK396.out) hb); replace BK397 := Aside0.mk (blk_below (g := gb397) (o := .cells #[.slice A1_0 l1_0.length c1_0, .slice A1_1 l1_1.length c1_1] 26 (0, 0)) (kU BK397.out) hb); replace HB := Aside0.mk (below_step (bS2 HB.out GE396.out GE397.out) hb); (try clear hb); (try clear hb2); (try clear hk); (try clear hi)))
    go_meet
    case rel => exact ⟨_, (!t402), (by first | rfl | (simp; done) | (simp [*]; done)), H', ⟨by first | omega | exact Nat.le_refl _⟩, ⟨by refine RU ?_; exact HO400.out⟩, ⟨by refine kU ?_; exact BK396.out⟩, ⟨by refine kU ?_; exact BK397.out⟩, ⟨by exact bS2 HB.out GE396.out GE397.out⟩⟩
   ·
    replace c11 := Bool.eq_false_iff.mpr c11
    subst c11
    have H1 : (impl_Fit.j0 k y398 true l0_0 l0_1 l1_0 l1_1) = some (r1, r2) := by rw [if_neg (show ¬ (false = true) by decide)] at H; exact H
    clear H
    have H := H1
    clear H1
    have H' := Aside0.mk H
    clear H
    have hnb18 := NB396_397.out
    have hnc18 := NB397_396.out
    have hcz19_0 : w9.cell? ⟨gb396, 0, none⟩ = some (.slice A0_0 l0_0.length c0_0) := (blk_cell BK396.out 0).trans rfl
    have hcz19_1 : w9.cell? ⟨gb396, 1, none⟩ = some (.slice A0_1 l0_1.length c0_1) := (blk_cell BK396.out 1).trans rfl
    have hfz19_0 := blk_frozen BK396.out 0
    have hfz19_1 := blk_frozen BK396.out 1
    go_wp2_with (first | ((with_reducible refine gate_callee (f := 21) rfl ?_); refine goesL_ (some 12) rfl rfl Try.func21 (by kernel_rfl) rfl #[.agg #[.slice A0_0 l0_0.length c0_0, .slice A0_1 l0_1.length c0_1]] rfl lU ?_; (with_reducible refine (impl_ArrayOk.calls k _ _ l0_0 _ _ l0_1 false _ ?side1 ?side2 ?side3 ?side4 A10.out).mono ?_); (case side1 => exact cU (Kd.C_below HR0_0.out HB.out)); (case side2 => exact HC0_0.out); (case side3 => exact cU (Kd.C_below HR0_1.out HB.out)); (case side4 => exact HC0_1.out); rintro e w20 ⟨rfl, hb⟩; refine ⟨_, rfl, ?_⟩; replace HO400 := Aside0.mk (Kd.R_below (RU HO400.out) hb); replace BK396 := Aside0.mk (blk_below (g := gb396) (o := .cells #[.slice A0_0 l0_0.length c0_0, .slice A0_1 l0_1.length c0_1] 26 (0, 0)) (kU BK396.out) hb); replace BK397 := Aside0.mk (blk_below (g := gb397) (o := .cells #[.slice A1_0 l1_0.length c1_0, .slice A1_1 l1_1.length c1_1] 26 (0, 0)) (kU BK397.out) hb); replace HB := Aside0.mk (below_step (bS2 HB.out GE396.out GE397.out) hb); (try clear hb); (try clear hb2); (try clear hk); (try clear hi)))
    go_meet
    case rel => exact ⟨_, (true), (by first | rfl | (simp; done) | (simp [*]; done)), H', ⟨by first | omega | exact Nat.le_refl _⟩, ⟨by refine RU ?_; exact HO400.out⟩, ⟨by refine kU ?_; exact BK396.out⟩, ⟨by refine kU ?_; exact BK397.out⟩, ⟨by exact bS2 HB.out GE396.out GE397.out⟩⟩
  case rest =>
   clear HC4
   try clear c1
   try clear c2
   try clear p2
   try clear c3
   try clear c7
   try clear c11
   try clear c13
   try clear c18
   try clear c19
   try clear hcz14_0
   try clear hcz14_1
   try clear hcz16_0
   try clear hcz16_1
   try clear hcz19_0
   try clear hcz19_1
   try clear hcz8_0
   try clear hcz8_1
   try clear hfz14_0
   try clear hfz14_1
   try clear hfz16_0
   try clear hfz16_1
   try clear hfz19_0
   try clear hfz19_1
   try clear hfz8_0
   try clear hfz8_1
   obtain ⟨kq, x10_3, rfl, HA, HJ3, HO_6, BK396, BK397, HB⟩ := hcut
   cases kq with
   | zero => exact absurd HA.out (by simp [impl_Fit.j0])
   | succ kj3 =>
    have H := HA.out
    clear HA
    simp only [impl_Fit.j0] at H
    by_cases c21 : x10_3 = true
    ·
     subst c21
     have H1 : (some (([] : List Int), 1)) = some (r1, r2) := by rw [if_pos rfl] at H; exact H
     clear H
     have H := H1
     clear H1
     simp only [Option.some.injEq, Prod.mk.injEq] at H
     obtain ⟨rfl, rfl⟩ := H
     go_wp2
     go_ret2
     exact ⟨_, by first | rfl | (simp [errW_none, errW_some] <;> rfl) | (simp [*, errW_none, errW_some] <;> rfl), by first | exact Kd.R_nil _ _ _ _ _ | exact Kd.N_nil _ _ _ _ _ | exact Kd.V_nil _ _ _ _ _ | exact Kd.Q_nil _ _ _ _ _ | exact Kd.S_nil _ _ _ _ _, by exact bS2 HB.out GE396.out GE397.out⟩
    ·
     replace c21 := Bool.eq_false_iff.mpr c21
     subst c21
     have H1 : (if (l0_0.length : Int) = 0 then (if ([] : List Int).length + l1_0.length < 17592186044416 then (some ((([] : List Int) ++ l1_0), 0)) else (none)) else (if (l1_0.length : Int) = 0 then (some (y398, 0)) else (if (l0_0.length : Int) = (l1_0.length : Int) then ((slices_Equal_int_int.f kj3 l0_0 l1_0).bind fun t406 => (if t406 = true then (some (y398, 0)) else (some (([] : List Int), 3)))) else (some (([] : List Int), 4))))) = some (r1, r2) := by rw [if_neg (show ¬ (false = true) by decide)] at H; exact H
     clear H
     have H := H1
     clear H1
     by_cases c22 : (l0_0.length : Int) = 0
     ·
      rw [if_pos c22] at H
      have c22b0 : ((l0_0.length : Int) == 0) = true := beq_iff_eq.mpr c22
      have c22b1 : ((l0_0.length : Int) != 0) = false := bne_eq_false_iff_eq.mpr c22
      clear c22
      by_cases c23 : ([] : List Int).length + l1_0.length < 17592186044416
      ·
       rw [if_pos c23] at H
       have LMc23 := Aside0.mk c23
       clear c23
       obtain ⟨y403, hy403⟩ : ∃ y_ : List Int, y_ = (([] : List Int) ++ l1_0) := ⟨_, rfl⟩
       replace H : (some (y403, 0)) = some (r1, r2) := by first | (rw [hy403]; with_reducible exact H) | (have H2_ := (Option.bind_some _ _).symm.trans H; rw [hy403]; with_reducible exact H2_) | (have H2_ := (Option.bind_some _ _).symm.trans H; with_reducible exact H2_) | with_reducible exact H | (rw [hy403]; exact H) | exact H
       have Ny403 := Aside0.mk hy403
       clear hy403
       simp only [Option.some.injEq, Prod.mk.injEq] at H
       obtain ⟨rfl, rfl⟩ := H
       have hnb24 := NB396_397.out
       have hnc24 := NB397_396.out
       have hcz25_0 : wc.cell? ⟨gb396, 0, none⟩ = some (.slice A0_0 l0_0.length c0_0) := (blk_cell BK396.out 0).trans rfl
       have hcz25_1 : wc.cell? ⟨gb396, 1, none⟩ = some (.slice A0_1 l0_1.length c0_1) := (blk_cell BK396.out 1).trans rfl
       have hfz25_0 := blk_frozen BK396.out 0
       have hfz25_1 := blk_frozen BK396.out 1
       have hcz26_0 : wc.cell? ⟨gb397, 0, none⟩ = some (.slice A1_0 l1_0.length c1_0) := (blk_cell BK397.out 0).trans rfl
       have hcz26_1 : wc.cell? ⟨gb397, 1, none⟩ = some (.slice A1_1 l1_1.length c1_1) := (blk_cell BK397.out 1).trans rfl
       have hfz26_0 := blk_frozen BK397.out 0
       have hfz26_1 := blk_frozen BK397.out 1
       go_wp2_with (first | ((with_reducible refine gate_builtin (b := .append) (xs := #[.const (.slice none 0 0), .tmp 25]) rfl ?_); at_builtin; refine Kd.R_append_rows (Kd.int .i64) (w0 := w) w.heap.size rfl (.const (.slice none 0 0)) (.tmp 25) 24 3 (.int .i64 0) 8 rfl Try.underlying24 info3 rfl (by decide) (by omega) (.slice none 0 0) ([] : List Int) l1_0 _ _ _ (fun k_ => some k_ ≠ (v399 : Value).ownBlock) (fun _ => False) rfl rfl ?aO ?aR (fun _ _ h => h) (fun _ h => h.elim) ?aF ?aB ?aS ?aL ?_; (case aR => exact cU (Kd.C_below HR1_0.out HB.out)); (case aB => exact (bS2 HB.out GE396.out GE397.out)); (case aF => exact (fun k_ hk => Kd.fresh' (Kd.R_lt (RU HO_6.out)) k_ hk)); (case aO => exact ((Kd.R_nil _ _ _ _ (fun k_ => some k_ ≠ (v399 : Value).ownBlock)))); (case aS => exact (below_size (bS2 HB.out GE396.out GE397.out))); (case aL => have := LMc23.out; omega); intro v404 w27 ho hb hg hat; rw [← Ny403.out] at ho; replace HO_6 := Aside0.mk (Kd.R_after (Kd.R_apart_nil (RU HO_6.out)) hg hat); replace BK396 := Aside0.mk (blk_grown (g := gb396) (o := .cells #[.slice A0_0 l0_0.length c0_0, .slice A0_1 l0_1.length c0_1] 26 (0, 0)) (kU BK396.out) hg (by simp [Value.ownBlock])); replace BK397 := Aside0.mk (blk_grown (g := gb397) (o := .cells #[.slice A1_0 l1_0.length c1_0, .slice A1_1 l1_1.length c1_1] 26 (0, 0)) (kU BK397.out) hg (by simp [Value.ownBlock])); replace HB := Aside0.mk (hb); have HO405 := Aside0.mk (ho); clear ho hb hg hat))
       go_ret2
       exact ⟨_, by first | rfl | (simp [errW_none, errW_some] <;> rfl) | (simp [*, errW_none, errW_some] <;> rfl), by refine RU ?_; exact Kd.R_mono HO405.out (fun _ hk => trivial), by exact bS2 HB.out GE396.out GE397.out⟩
      ·
       rw [if_neg c23] at H
       exact absurd H (by simp)
     ·
      rw [if_neg c22] at H
      have c22b0 : ((l0_0.length : Int) == 0) = false := beq_eq_false_iff_ne.mpr c22
      have c22b1 : ((l0_0.length : Int) != 0) = true := bne_iff_ne.mpr c22
      have c22b2 : ¬ (l0_0 = []) := fun h_ => c22 (by rw [h_]; rfl)
      by_cases c28 : (l1_0.length : Int) = 0
      ·
       rw [if_pos c28] at H
       have c28b0 : ((l1_0.length : Int) == 0) = true := beq_iff_eq.mpr c28
       have c28b1 : ((l1_0.length : Int) != 0) = false := bne_eq_false_iff_eq.mpr c28
       clear c28
       simp only [Option.some.injEq, Prod.mk.injEq] at H
       obtain ⟨rfl, rfl⟩ := H
       have hnb29 := NB396_397.out
       have hnc29 := NB397_396.out
       have hcz30_0 : wc.cell? ⟨gb396, 0, none⟩ = some (.slice A0_0 l0_0.length c0_0) := (blk_cell BK396.out 0).trans rfl
       have hcz30_1 : wc.cell? ⟨gb396, 1, none⟩ = some (.slice A0_1 l0_1.length c0_1) := (blk_cell BK396.out 1).trans rfl
       have hfz30_0 := blk_frozen BK396.out 0
       have hfz30_1 := blk_frozen BK396.out 1
       have hcz31_0 : wc.cell? ⟨gb397, 0, none⟩ = some (.slice A1_0 l1_0.length c1_0) := (blk_cell BK397.out 0).trans rfl
       have hcz31_1 : wc.cell? ⟨gb397, 1, none⟩ = some (.slice A1_1 l1_1.length c1_1) := (blk_cell BK397.out 1).trans rfl
       have hfz31_0 := blk_frozen BK397.out 0
       have hfz31_1 := blk_frozen BK397.out 1
       go_wp2
       go_ret2
       exact ⟨_, by first | rfl | (simp [errW_none, errW_some] <;> rfl) | (simp [*, errW_none, errW_some] <;> rfl), by refine RU ?_; exact HO_6.out, by exact bS2 HB.out GE396.out GE397.out⟩
      ·
       rw [if_neg c28] at H
       have c28b0 : ((l1_0.length : Int) == 0) = false := beq_eq_false_iff_ne.mpr c28
       have c28b1 : ((l1_0.length : Int) != 0) = true := bne_iff_ne.mpr c28
       have c28b2 : ¬ (l1_0 = []) := fun h_ => c28 (by rw [h_]; rfl)
       by_cases c32 : (l0_0.length : Int) = (l1_0.length : Int)
       ·
        rw [if_pos c32] at H
        have c32b0 : ((l0_0.length : Int) == (l1_0.length : Int)) = true := beq_iff_eq.mpr c32
        have c32b1 : ((l0_0.length : Int) != (l1_0.length : Int)) = false := bne_eq_false_iff_eq.mpr c32
        have c32b2 : (l0_0.length == l1_0.length) = true := by first | simpa using c32 | (simp at c32 ⊢; omega)
        clear c32
        replace H := Option.bind_eq_some_iff.mp H
        obtain ⟨t406, A330, H⟩ := H
        replace H : (if t406 = true then (some (y398, 0)) else (some (([] : List Int), 3))) = some (r1, r2) := H
        have A33 := Aside0.mk A330
        clear A330
        by_cases c34 : t406 = true
        ·
         subst c34
         have H1 : (some (y398, 0)) = some (r1, r2) := by rw [if_pos rfl] at H; exact H
         clear H
         have H := H1
         clear H1
         simp only [Option.some.injEq, Prod.mk.injEq] at H
         obtain ⟨rfl, rfl⟩ := H
         have hnb35 := NB396_397.out
         have hnc35 := NB397_396.out
         have hcz36_0 : wc.cell? ⟨gb396, 0, none⟩ = some (.slice A0_0 l0_0.length c0_0) := (blk_cell BK396.out 0).trans rfl
         have hcz36_1 : wc.cell? ⟨gb396, 1, none⟩ = some (.slice A0_1 l0_1.length c0_1) := (blk_cell BK396.out 1).trans rfl
         have hfz36_0 := blk_frozen BK396.out 0
         have hfz36_1 := blk_frozen BK396.out 1
         have hcz37_0 : wc.cell? ⟨gb397, 0, none⟩ = some (.slice A1_0 l1_0.length c1_0) := (blk_cell BK397.out 0).trans rfl
         have hcz37_1 : wc.cell? ⟨gb397, 1, none⟩ = some (.slice A1_1 l1_1.length c1_1) := (blk_cell BK397.out 1).trans rfl
         have hfz37_0 := blk_frozen BK397.out 0
         have hfz37_1 := blk_frozen BK397.out 1
         go_wp2_with (first | ((with_reducible refine gate_callee (f := 77) rfl ?_); refine goesL_ (some 46) rfl rfl Try.func77 (by kernel_rfl) rfl #[.slice A0_0 l0_0.length c0_0, .slice A1_0 l1_0.length c1_0] rfl lU ?_; (with_reducible refine (slices_Equal_int_int.calls kj3 _ _ l0_0 _ _ l1_0 true _ ?side1 ?side2 ?side3 ?side4 A33.out).mono ?_); (case side1 => exact cU (Kd.C_below HR0_0.out HB.out)); (case side2 => exact HC0_0.out); (case side3 => exact cU (Kd.C_below HR1_0.out HB.out)); (case side4 => exact HC1_0.out); rintro e w' ⟨rfl, ⟨nd, rfl⟩⟩; refine ⟨_, rfl, ?_⟩))
         go_ret2
         exact ⟨_, by first | rfl | (simp [errW_none, errW_some] <;> rfl) | (simp [*, errW_none, errW_some] <;> rfl), by refine RU ?_; exact HO_6.out, by exact bS2 HB.out GE396.out GE397.out⟩
        ·
         replace c34 := Bool.eq_false_iff.mpr c34
         subst c34
         have H1 : (some (([] : List Int), 3)) = some (r1, r2) := by rw [if_neg (show ¬ (false = true) by decide)] at H; exact H
         clear H
         have H := H1
         clear H1
         simp only [Option.some.injEq, Prod.mk.injEq] at H
         obtain ⟨rfl, rfl⟩ := H
         have hnb38 := NB396_397.out
         have hnc38 := NB397_396.out
         have hcz39_0 : wc.cell? ⟨gb396, 0, none⟩ = some (.slice A0_0 l0_0.length c0_0) := (blk_cell BK396.out 0).trans rfl
         have hcz39_1 : wc.cell? ⟨gb396, 1, none⟩ = some (.slice A0_1 l0_1.length c0_1) := (blk_cell BK396.out 1).trans rfl
         have hfz39_0 := blk_frozen BK396.out 0
         have hfz39_1 := blk_frozen BK396.out 1
         have hcz40_0 : wc.cell? ⟨gb397, 0, none⟩ = some (.slice A1_0 l1_0.length c1_0) := (blk_cell BK397.out 0).trans rfl
         have hcz40_1 : wc.cell? ⟨gb397, 1, none⟩ = some (.slice A1_1 l1_1.length c1_1) := (blk_cell BK397.out 1).trans rfl
         have hfz40_0 := blk_frozen BK397.out 0
         have hfz40_1 := blk_frozen BK397.out 1
         go_wp2_with (first | ((with_reducible refine gate_callee (f := 77) rfl ?_); refine goesL_ (some 46) rfl rfl Try.func77 (by kernel_rfl) rfl #[.slice A0_0 l0_0.length c0_0, .slice A1_0 l1_0.length c1_0] rfl lU ?_; (with_reducible refine (slices_Equal_int_int.calls kj3 _ _ l0_0 _ _ l1_0 false _ ?side1 ?side2 ?side3 ?side4 A33.out).mono ?_); (case side1 => exact cU (Kd.C_below HR0_0.out HB.out)); (case side2 => exact HC0_0.out); (case side3 => exact cU (Kd.C_below HR1_0.out HB.out)); (case side4 => exact HC1_0.out); rintro e w' ⟨rfl, ⟨nd, rfl⟩⟩; refine ⟨_, rfl, ?_⟩))
         go_ret2
         exact ⟨_, by first | rfl | (simp [errW_none, errW_some] <;> rfl) | (simp [*, errW_none, errW_some] <;> rfl), by first | exact Kd.R_nil _ _ _ _ _ | exact Kd.N_nil _ _ _ _ _ | exact Kd.V_nil _ _ _ _ _ | exact Kd.Q_nil _ _ _ _ _ | exact Kd.S_nil _ _ _ _ _, by exact bS2 HB.out GE396.out GE397.out⟩
       ·
        rw [if_neg c32] at H
        have c32b0 : ((l0_0.length : Int) == (l1_0.length : Int)) = false := beq_eq_false_iff_ne.mpr c32
        have c32b1 : ((l0_0.length : Int) != (l1_0.length : Int)) = true := bne_iff_ne.mpr c32
        have c32b2 : (l0_0.length == l1_0.length) = false := by first | simpa using c32 | (simp at c32 ⊢; omega)
        simp only [Option.some.injEq, Prod.mk.injEq] at H
        obtain ⟨rfl, rfl⟩ := H
        have hnb41 := NB396_397.out
        have hnc41 := NB397_396.out
        have hcz42_0 : wc.cell? ⟨gb396, 0, none⟩ = some (.slice A0_0 l0_0.length c0_0) := (blk_cell BK396.out 0).trans rfl
        have hcz42_1 : wc.cell? ⟨gb396, 1, none⟩ = some (.slice A0_1 l0_1.length c0_1) := (blk_cell BK396.out 1).trans rfl
        have hfz42_0 := blk_frozen BK396.out 0
        have hfz42_1 := blk_frozen BK396.out 1
        have hcz43_0 : wc.cell? ⟨gb397, 0, none⟩ = some (.slice A1_0 l1_0.length c1_0) := (blk_cell BK397.out 0).trans rfl
        have hcz43_1 : wc.cell? ⟨gb397, 1, none⟩ = some (.slice A1_1 l1_1.length c1_1) := (blk_cell BK397.out 1).trans rfl
        have hfz43_0 := blk_frozen BK397.out 0
        have hfz43_1 := blk_frozen BK397.out 1
        go_wp2
        go_ret2
        exact ⟨_, by first | rfl | (simp [errW_none, errW_some] <;> rfl) | (simp [*, errW_none, errW_some] <;> rfl), by first | exact Kd.R_nil _ _ _ _ _ | exact Kd.N_nil _ _ _ _ _ | exact Kd.V_nil _ _ _ _ _ | exact Kd.Q_nil _ _ _ _ _ | exact Kd.S_nil _ _ _ _ _, by exact bS2 HB.out GE396.out GE397.out⟩
 ·
  rw [if_neg c3] at H
  exact absurd H (by simp)

end Go.Proofs.Ytlaikodjcjfeiaa.PFnEach
