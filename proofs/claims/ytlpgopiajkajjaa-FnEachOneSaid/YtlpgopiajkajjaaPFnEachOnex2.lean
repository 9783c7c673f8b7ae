/- The walk of what a law reaches, for the law's row: written by a program of this session; it has no condition of its own. -/
import Derived.Test.YtlpgopiajkajjaaPFnEachOnex0
import Derived.Test.YtlpgopiajkajjaaQ
import Derived.Test.YtlpgopiajkajjaaPFnEachOnex1
namespace Go.Proofs.Ytlpgopiajkajjaa.PFnEachOne
open Go.RowKit Go.Proofs.YtlpgopiajkajjaaW.PrintWords Go.Proofs.YtlpgopiajkajjaaW.PrintLast Go.Proofs.YtlpgopiajkajjaaW.PrintMore Go.Proofs.YtlpgopiajkajjaaQ
attribute [local go_sem] max2_int min2_int max_two min_two max_three min_three max_four min_four   -- for this text's walks alone
set_option linter.unusedVariables false
set_option linter.unusedSimpArgs false

/-! ### spec_SizeOf: function 67 -/
mutual
def spec_SizeOf.l0 : Nat → List Int → Bool → Int → Option (Int)
  | 0, _, _, _ => none
  | k + 1, x0, x3, x4 => if x4 < (x0.length : Int) then (if 0 ≤ x4 then ((spec_l1In.f (rd x0 x4) 0 300).bind fun t116 => (if t116 = true then (if x3 = true then (spec_SizeOf.l0 k x0 true (wrap64 (x4 + 1))) else (spec_SizeOf.l0 k x0 ((rd x0 x4) == 0) (wrap64 (x4 + 1)))) else (some (-1)))) else (none)) else (spec_SizeOf.l1 k x0 x3 1 0)
def spec_SizeOf.l1 : Nat → List Int → Bool → Int → Int → Option (Int)
  | 0, _, _, _, _ => none
  | k + 1, x0, x3, x5, x6 => if x6 < (x0.length : Int) then (if 0 ≤ x6 then (spec_SizeOf.l1 k x0 x3 (wrap64 (x5 * (rd x0 x6))) (wrap64 (x6 + 1))) else (none)) else (if x5 > 300 then (if x3 = true then (some x5) else (some (-1))) else (some x5))
end
def spec_SizeOf.f (k : Nat) (l0 : List Int) : Option (Int) := if (l0.length : Int) > 3 then (some (-1)) else (spec_SizeOf.l0 k l0 false 0)
theorem spec_SizeOf.mono_l : ∀ k, (∀ y0 y1 y2, LeO (spec_SizeOf.l0 k y0 y1 y2) (spec_SizeOf.l0 (k + 1) y0 y1 y2)) ∧ (∀ y0 y1 y2 y3, LeO (spec_SizeOf.l1 k y0 y1 y2 y3) (spec_SizeOf.l1 (k + 1) y0 y1 y2 y3))
  | 0 => ⟨fun _ _ _ r h => by simp [spec_SizeOf.l0] at h, fun _ _ _ _ r h => by simp [spec_SizeOf.l1] at h⟩
  | k + 1 => by
    obtain ⟨ih0, ih1⟩ := spec_SizeOf.mono_l k
    refine ⟨?_, ?_⟩
    · intro y0 y1 y2
      unfold spec_SizeOf.l0
      repeat' first
      | (with_reducible exact ih0 _ _ _)
      | (with_reducible exact ih1 _ _ _ _)
      | (with_reducible exact LeO.refl _)
      | (with_reducible exact LeO.none _)
      | (with_reducible refine LeO.ite ?_ ?_)
      | (with_reducible refine LeO.bind ?_ (fun _ => ?_))
      | exact ih0 _ _ _
      | exact ih1 _ _ _ _
      | exact LeO.none _
      | refine LeO.ite ?_ ?_
      | refine LeO.bind ?_ (fun _ => ?_)
    · intro y0 y1 y2 y3
      unfold spec_SizeOf.l1
      repeat' first
      | (with_reducible exact ih0 _ _ _)
      | (with_reducible exact ih1 _ _ _ _)
      | (with_reducible exact LeO.refl _)
      | (with_reducible exact LeO.none _)
      | (with_reducible refine LeO.ite ?_ ?_)
      | (with_reducible refine LeO.bind ?_ (fun _ => ?_))
      | exact ih0 _ _ _
      | exact ih1 _ _ _ _
      | exact LeO.none _
      | refine LeO.ite ?_ ?_
      | refine LeO.bind ?_ (fun _ => ?_)
theorem spec_SizeOf.mono : ∀ a0 k, LeO (spec_SizeOf.f k a0) (spec_SizeOf.f (k + 1) a0) := by
  intro a0 k
  obtain ⟨ih0, ih1⟩ := spec_SizeOf.mono_l k
  unfold spec_SizeOf.f
  repeat' first
      | (with_reducible exact ih0 _ _ _)
      | (with_reducible exact ih1 _ _ _ _)
      | (with_reducible exact LeO.refl _)
      | (with_reducible exact LeO.none _)
      | (with_reducible refine LeO.ite ?_ ?_)
      | (with_reducible refine LeO.bind ?_ (fun _ => ?_))
      | exact ih0 _ _ _
      | exact ih1 _ _ _ _
      | exact LeO.none _
      | refine LeO.ite ?_ ?_
      | refine LeO.bind ?_ (fun _ => ?_)
set_option maxHeartbeats 8000000 in
set_option maxRecDepth 100000 in
theorem spec_SizeOf.calls (k : Nat) (A0 : Option Addr) (c0 : Nat) (l0 : List Int) (r : Int) (w : World) (hr0 : Kd.C (Kd.int .i64) w A0 l0.length l0) (hc0 : l0.length ≤ c0) (h : spec_SizeOf.f k l0 = some r) :
    Calls Try.prog 67 #[.slice A0 l0.length c0] w fun e w' => e = .returned (.int .i64 r) ∧ Drawn0 w w' := by
  have HR0 := Aside0.mk hr0
  have HC0 := Aside0.mk hc0
  clear hr0 hc0
  have H : (if (l0.length : Int) > 3 then (some (-1)) else (spec_SizeOf.l0 k l0 false 0)) = some r := h
  clear h
  by_cases c2 : (l0.length : Int) > 3
  · rw [if_pos c2] at H
    have c2b0 : decide (3 < (l0.length : Int)) = true := decide_eq_true c2
    have c2b1 : decide (3 < l0.length) = true := decide_eq_true (by omega)
    clear c2
    obtain rfl := Option.some.inj H
    go_enter Try.func67, Try.ntmps67
    go_wp2
    go_ret
    exact ⟨by first | rfl | (simp; done) | (simp [*]; done), by repeat (first | exact Drawn0.refl _ | apply Drawn0.step)⟩
  · rw [if_neg c2] at H
    have c2b0 : decide (3 < (l0.length : Int)) = false := decide_eq_false c2
    have c2b1 : decide (3 < l0.length) = false := decide_eq_false (by omega)
    clear c2
    have H' := Aside0.mk H
    clear H
    go_enter Try.func67, Try.ntmps67
    go_wp2
    go_loopg [3, 4] k (fun kq v3 v4 w' => ∃ (x3_1 : Bool) (x4_1 : Int), v3 = .bool x3_1 ∧ v4 = .int .i64 x4_1 ∧ Aside0 (spec_SizeOf.l0 kq l0 x3_1 x4_1 = some r) ∧ Aside0 (kq ≤ k) ∧ Drawn0 w w')
    case atStart => exact ⟨(false), (0), (by first | rfl | (simp; done) | (simp [*]; done)), (by first | rfl | (simp; done) | (simp [*]; done)), H', ⟨Nat.le_refl _⟩, by repeat (first | exact Drawn0.refl _ | apply Drawn0.step)⟩
    case round =>
      clear H'
      try clear c2
      try clear c2b0
      try clear c2b1
      try clear p2
      obtain ⟨x3_1, x4_1, rfl, rfl, HA, HK1, ⟨m1, rfl⟩⟩ := hrel
      cases gk with
      | zero => exact absurd HA.out (by simp [spec_SizeOf.l0])
      | succ k1 =>
        have H := HA.out
        clear HA
        simp only [spec_SizeOf.l0] at H
        by_cases c3 : x4_1 < (l0.length : Int)
        · rw [if_pos c3] at H
          have c3b0 : decide (x4_1 < (l0.length : Int)) = true := decide_eq_true c3
          clear c3
          by_cases c4 : 0 ≤ x4_1
          · rw [if_pos c4] at H
            have c4b0 : decide (0 ≤ x4_1) = true := decide_eq_true c4
            clear c4
            replace H := Option.bind_eq_some_iff.mp H
            obtain ⟨t116, A50, H⟩ := H
            replace H : (if t116 = true then (if x3_1 = true then (spec_SizeOf.l0 k1 l0 true (wrap64 (x4_1 + 1))) else (spec_SizeOf.l0 k1 l0 ((rd l0 x4_1) == 0) (wrap64 (x4_1 + 1)))) else (some (-1))) = some r := H
            have A5 := Aside0.mk A50
            clear A50
            by_cases c6 : t116 = true
            · subst c6
              have H1 : (if x3_1 = true then (spec_SizeOf.l0 k1 l0 true (wrap64 (x4_1 + 1))) else (spec_SizeOf.l0 k1 l0 ((rd l0 x4_1) == 0) (wrap64 (x4_1 + 1)))) = some r := by rw [if_pos rfl] at H; exact H
              clear H
              have H := H1
              clear H1
              by_cases c7 : x3_1 = true
              · subst c7
                have H1 : (spec_SizeOf.l0 k1 l0 true (wrap64 (x4_1 + 1))) = some r := by rw [if_pos rfl] at H; exact H
                clear H
                have H := H1
                clear H1
                have H' := Aside0.mk H
                clear H
                have p115 : 0 ≤ (x4_1 : Int) := of_decide_eq_true (by first | (with_reducible assumption) | assumption)
                have q115 : x4_1 < (l0.length : Int) := of_decide_eq_true (by first | (with_reducible assumption) | assumption)
                obtain ⟨ad115, e115, hx115_0⟩ := Kd.at_int HR0.out x4_1 p115 q115
                cases e115
                replace p115 := eq_true p115
                replace q115 := eq_true q115
                go_wp2_with (first | ((with_reducible refine gate_callee (f := 63) rfl ?_); refine goesL_ (some 20) rfl rfl Try.func63 (by kernel_rfl) rfl #[.int .i64 (rd l0 x4_1), .int .i64 0, .int .i64 300] rfl (by (try simp only [List.map_toArray, List.map_cons, List.map_nil]); first | done | rfl | (simp only [List.length_drop, List.length_take]; rfl)) ?_; (with_reducible refine (spec_l1In.calls (rd l0 x4_1) 0 300 true _ A5.out).mono ?_); rintro e w' ⟨rfl, ⟨nd, rfl⟩⟩; refine ⟨_, rfl, ?_⟩))
                go_roundg k1
                case measure => have := HK1.out; omega
                case rel => exact ⟨(true), (wrap64 (x4_1 + 1)), (by first | rfl | (simp; done) | (simp [*]; done)), (by first | rfl | (simp; done) | (simp [*]; done)), H', ⟨by have := HK1.out; omega⟩, by repeat (first | exact Drawn0.refl _ | apply Drawn0.step)⟩
              · replace c7 := Bool.eq_false_iff.mpr c7
                subst c7
                have H1 : (spec_SizeOf.l0 k1 l0 ((rd l0 x4_1) == 0) (wrap64 (x4_1 + 1))) = some r := by rw [if_neg (show ¬ (false = true) by decide)] at H; exact H
                clear H
                have H := H1
                clear H1
                have H' := Aside0.mk H
                clear H
                have p115 : 0 ≤ (x4_1 : Int) := of_decide_eq_true (by first | (with_reducible assumption) | assumption)
                have q115 : x4_1 < (l0.length : Int) := of_decide_eq_true (by first | (with_reducible assumption) | assumption)
                obtain ⟨ad115, e115, hx115_0⟩ := Kd.at_int HR0.out x4_1 p115 q115
                cases e115
                replace p115 := eq_true p115
                replace q115 := eq_true q115
                go_wp2_with (first | ((with_reducible refine gate_callee (f := 63) rfl ?_); refine goesL_ (some 20) rfl rfl Try.func63 (by kernel_rfl) rfl #[.int .i64 (rd l0 x4_1), .int .i64 0, .int .i64 300] rfl (by (try simp only [List.map_toArray, List.map_cons, List.map_nil]); first | done | rfl | (simp only [List.length_drop, List.length_take]; rfl)) ?_; (with_reducible refine (spec_l1In.calls (rd l0 x4_1) 0 300 true _ A5.out).mono ?_); rintro e w' ⟨rfl, ⟨nd, rfl⟩⟩; refine ⟨_, rfl, ?_⟩; have p117 : 0 ≤ (x4_1 : Int) := of_decide_eq_true (by first | (with_reducible assumption) | assumption); have q117 : x4_1 < (l0.length : Int) := of_decide_eq_true (by first | (with_reducible assumption) | assumption); obtain ⟨ad117, e117, hx117_0⟩ := Kd.at_int HR0.out x4_1 p117 q117; obtain rfl : ad115 = ad117 := (by injection e117); replace p117 := eq_true p117; replace q117 := eq_true q117))
                go_roundg k1
                case measure => have := HK1.out; omega
                case rel => exact ⟨(((rd l0 x4_1) == 0)), (wrap64 (x4_1 + 1)), (by first | rfl | (simp; done) | (simp [*]; done)), (by first | rfl | (simp; done) | (simp [*]; done)), H', ⟨by have := HK1.out; omega⟩, by repeat (first | exact Drawn0.refl _ | apply Drawn0.step)⟩
            · replace c6 := Bool.eq_false_iff.mpr c6
              subst c6
              have H1 : (some (-1)) = some r := by rw [if_neg (show ¬ (false = true) by decide)] at H; exact H
              clear H
              have H := H1
              clear H1
              obtain rfl := Option.some.inj H
              have p115 : 0 ≤ (x4_1 : Int) := of_decide_eq_true (by first | (with_reducible assumption) | assumption)
              have q115 : x4_1 < (l0.length : Int) := of_decide_eq_true (by first | (with_reducible assumption) | assumption)
              obtain ⟨ad115, e115, hx115_0⟩ := Kd.at_int HR0.out x4_1 p115 q115
              cases e115
              replace p115 := eq_true p115
              replace q115 := eq_true q115
              go_wp2_with (first | ((with_reducible refine gate_callee (f := 63) rfl ?_); refine goesL_ (some 20) rfl rfl Try.func63 (by kernel_rfl) rfl #[.int .i64 (rd l0 x4_1), .int .i64 0, .int .i64 300] rfl (by (try simp only [List.map_toArray, List.map_cons, List.map_nil]); first | done | rfl | (simp only [List.length_drop, List.length_take]; rfl)) ?_; (with_reducible refine (spec_l1In.calls (rd l0 x4_1) 0 300 false _ A5.out).mono ?_); rintro e w' ⟨rfl, ⟨nd, rfl⟩⟩; refine ⟨_, rfl, ?_⟩))
              go_ret
              exact ⟨by first | rfl | (simp; done) | (simp [*]; done), by repeat (first | exact Drawn0.refl _ | apply Drawn0.step)⟩
          · rw [if_neg c4] at H
            exact absurd H (by simp)
        · rw [if_neg c3] at H
          have c3b0 : decide (x4_1 < (l0.length : Int)) = false := decide_eq_false c3
          clear c3
          have H' := Aside0.mk H
          clear H
          go_wp2
          go_loopg [5, 6] k1 (fun kq v5 v6 w' => ∃ (x5_2 : Int) (x6_2 : Int), v5 = .int .i64 x5_2 ∧ v6 = .int .i64 x6_2 ∧ Aside0 (spec_SizeOf.l1 kq l0 x3_1 x5_2 x6_2 = some r) ∧ Aside0 (kq ≤ k1) ∧ Drawn0 w w')
          case atStart => exact ⟨(1), (0), (by first | rfl | (simp; done) | (simp [*]; done)), (by first | rfl | (simp; done) | (simp [*]; done)), H', ⟨Nat.le_refl _⟩, by repeat (first | exact Drawn0.refl _ | apply Drawn0.step)⟩
          case round =>
            clear H'
            try clear p1
            try clear q1
            try clear hx1
            try clear c2
            try clear c2b0
            try clear c2b1
            try clear p2
            try clear c3
            try clear c3b0
            try clear c4
            try clear c4b0
            try clear c6
            try clear p6
            try clear c7
            try clear hx115_0
            try clear hx117_0
            try clear p115
            try clear p117
            try clear p2
            try clear q115
            try clear q117
            obtain ⟨x5_2, x6_2, rfl, rfl, HA, HK2, ⟨m2, rfl⟩⟩ := hrel
            cases gk with
            | zero => exact absurd HA.out (by simp [spec_SizeOf.l1])
            | succ k2 =>
              have H := HA.out
              clear HA
              simp only [spec_SizeOf.l1] at H
              by_cases c8 : x6_2 < (l0.length : Int)
              · rw [if_pos c8] at H
                have c8b0 : decide (x6_2 < (l0.length : Int)) = true := decide_eq_true c8
                clear c8
                by_cases c9 : 0 ≤ x6_2
                · rw [if_pos c9] at H
                  have c9b0 : decide (0 ≤ x6_2) = true := decide_eq_true c9
                  clear c9
                  have H' := Aside0.mk H
                  clear H
                  have p118 : 0 ≤ (x6_2 : Int) := of_decide_eq_true (by first | (with_reducible assumption) | assumption)
                  have q118 : x6_2 < (l0.length : Int) := of_decide_eq_true (by first | (with_reducible assumption) | assumption)
                  obtain ⟨ad118, e118, hx118_0⟩ := Kd.at_int HR0.out x6_2 p118 q118
                  cases e118
                  replace p118 := eq_true p118
                  replace q118 := eq_true q118
                  go_wp2
                  go_roundg k2
                  case measure => have := HK1.out; have := HK2.out; omega
                  case rel => exact ⟨(wrap64 (x5_2 * (rd l0 x6_2))), (wrap64 (x6_2 + 1)), (by first | rfl | (simp; done) | (simp [*]; done)), (by first | rfl | (simp; done) | (simp [*]; done)), H', ⟨by have := HK1.out; have := HK2.out; omega⟩, by repeat (first | exact Drawn0.refl _ | apply Drawn0.step)⟩
                · rw [if_neg c9] at H
                  exact absurd H (by simp)
              · rw [if_neg c8] at H
                have c8b0 : decide (x6_2 < (l0.length : Int)) = false := decide_eq_false c8
                clear c8
                by_cases c10 : x5_2 > 300
                · rw [if_pos c10] at H
                  have c10b0 : decide (300 < x5_2) = true := decide_eq_true c10
                  clear c10
                  by_cases c11 : x3_1 = true
                  · subst c11
                    have H1 : (some x5_2) = some r := by rw [if_pos rfl] at H; exact H
                    clear H
                    have H := H1
                    clear H1
                    obtain rfl := Option.some.inj H
                    go_wp2
                    go_ret
                    exact ⟨by first | rfl | (simp; done) | (simp [*]; done), by repeat (first | exact Drawn0.refl _ | apply Drawn0.step)⟩
                  · replace c11 := Bool.eq_false_iff.mpr c11
                    subst c11
                    have H1 : (some (-1)) = some r := by rw [if_neg (show ¬ (false = true) by decide)] at H; exact H
                    clear H
                    have H := H1
                    clear H1
                    obtain rfl := Option.some.inj H
                    go_wp2
                    go_ret
                    exact ⟨by first | rfl | (simp; done) | (simp [*]; done), by repeat (first | exact Drawn0.refl _ | apply Drawn0.step)⟩
                · rw [if_neg c10] at H
                  have c10b0 : decide (300 < x5_2) = false := decide_eq_false c10
                  clear c10
                  obtain rfl := Option.some.inj H
                  go_wp2
                  go_ret
                  exact ⟨by first | rfl | (simp; done) | (simp [*]; done), by repeat (first | exact Drawn0.refl _ | apply Drawn0.step)⟩

/-! ### spec_ArrayOk: function 33 -/
def spec_ArrayOk.l0 : Nat → Int → List Int → List Int → Option (Bool)
  | 0, _, _, _ => none
  | k + 1, x3, x120000, x120001 => if x3 < (x120001.length : Int) then (if 0 ≤ x3 then ((spec_NumOk.f (rd x120001 x3)).bind fun t122 => (if t122 = true then (spec_ArrayOk.l0 k (wrap64 (x3 + 1)) x120000 x120001) else (some false))) else (none)) else (some true)
def spec_ArrayOk.f (k : Nat) (l0_0 : List Int) (l0_1 : List Int) : Option (Bool) := (spec_SizeOf.f k l0_0).bind fun t120 => (if t120 = (l0_1.length : Int) then (spec_ArrayOk.l0 k 0 l0_0 l0_1) else (some false))
theorem spec_ArrayOk.mono_l : ∀ k, (∀ y0 y1 y2, LeO (spec_ArrayOk.l0 k y0 y1 y2) (spec_ArrayOk.l0 (k + 1) y0 y1 y2))
  | 0 => fun _ _ _ r h => by simp [spec_ArrayOk.l0] at h
  | k + 1 => by
    have ih0 := spec_ArrayOk.mono_l k
    · intro y0 y1 y2
      unfold spec_ArrayOk.l0
      repeat' first
      | (with_reducible exact ih0 _ _ _)
      | (with_reducible exact spec_SizeOf.mono _ _)
      | (with_reducible exact LeO.refl _)
      | (with_reducible exact LeO.none _)
      | (with_reducible refine LeO.ite ?_ ?_)
      | (with_reducible refine LeO.bind ?_ (fun _ => ?_))
      | exact ih0 _ _ _
      | exact spec_SizeOf.mono _ _
      | exact LeO.none _
      | refine LeO.ite ?_ ?_
      | refine LeO.bind ?_ (fun _ => ?_)
theorem spec_ArrayOk.mono : ∀ a0 a1 k, LeO (spec_ArrayOk.f k a0 a1) (spec_ArrayOk.f (k + 1) a0 a1) := by
  intro a0 a1 k
  have ih0 := spec_ArrayOk.mono_l k
  unfold spec_ArrayOk.f
  repeat' first
      | (with_reducible exact ih0 _ _ _)
      | (with_reducible exact spec_SizeOf.mono _ _)
      | (with_reducible exact LeO.refl _)
      | (with_reducible exact LeO.none _)
      | (with_reducible refine LeO.ite ?_ ?_)
      | (with_reducible refine LeO.bind ?_ (fun _ => ?_))
      | exact ih0 _ _ _
      | exact spec_SizeOf.mono _ _
      | exact LeO.none _
      | refine LeO.ite ?_ ?_
      | refine LeO.bind ?_ (fun _ => ?_)
set_option maxHeartbeats 8000000 in
set_option maxRecDepth 100000 in
theorem spec_ArrayOk.calls (k : Nat) (A0_0 : Option Addr) (c0_0 : Nat) (l0_0 : List Int) (A0_1 : Option Addr) (c0_1 : Nat) (l0_1 : List Int) (r : Bool) (w : World) (hr0_0 : Kd.C (Kd.int .i64) w A0_0 l0_0.length l0_0) (hc0_0 : l0_0.length ≤ c0_0) (hr0_1 : Kd.C (Kd.int .i64) w A0_1 l0_1.length l0_1) (hc0_1 : l0_1.length ≤ c0_1) (h : spec_ArrayOk.f k l0_0 l0_1 = some r) :
    Calls Try.prog 33 #[.agg #[.slice A0_0 l0_0.length c0_0, .slice A0_1 l0_1.length c0_1]] w fun e w' => e = .returned (.bool r) ∧ Below w.heap.size w w' := by
  have hu36 := Try.underlying36
  have HR0_0 := Aside0.mk hr0_0
  have HC0_0 := Aside0.mk hc0_0
  clear hr0_0 hc0_0
  have HR0_1 := Aside0.mk hr0_1
  have HC0_1 := Aside0.mk hc0_1
  clear hr0_1 hc0_1
  have HB := Aside0.mk (Below.refl w.heap.size w)
  have H : ((spec_SizeOf.f k l0_0).bind fun t120 => (if t120 = (l0_1.length : Int) then (spec_ArrayOk.l0 k 0 l0_0 l0_1) else (some false))) = some r := h
  clear h
  replace H := Option.bind_eq_some_iff.mp H
  obtain ⟨t120, A20, H⟩ := H
  replace H : (if t120 = (l0_1.length : Int) then (spec_ArrayOk.l0 k 0 l0_0 l0_1) else (some false)) = some r := H
  have A2 := Aside0.mk A20
  clear A20
  by_cases c3 : t120 = (l0_1.length : Int)
  · rw [if_pos c3] at H
    have c3b0 : (t120 == (l0_1.length : Int)) = true := beq_iff_eq.mpr c3
    have c3b1 : (t120 != (l0_1.length : Int)) = false := bne_eq_false_iff_eq.mpr c3
    clear c3
    have H' := Aside0.mk H
    clear H
    go_enter Try.func33, Try.ntmps33
    go_wp2_with (first | ((with_reducible refine gate_dst (N := 1) rfl ?_); refine box_event ?hg (N := 1) ?hd (cs := #[.slice A0_0 l0_0.length c0_0, .slice A0_1 l0_1.length c0_1]) (t := 36) ?hr ?_; (case hd => rfl); (case hg => rfl); (case hr => first | (go_simp; done) | (go_simp; rfl)); intro gb119 hg w4 hbox hb; have n0_ := Aside0.mk (below_step (bU HB.out) hb); have n1_ := Aside0.mk (hbox); have n2_ := Aside0.mk ((by rw [hg]; exact (below_size (bU HB.out)) : w.heap.size ≤ gb119)); have n3_ := Aside0.mk ((by rw [hg]; exact (below_size (bU HB.out)) : w.heap.size ≤ gb119)); clear HB; have HB := n0_; have BK119 := n1_; have GW119 := n2_; have GE119 := n3_; clear n0_ n1_ n2_ n3_; clear hb hbox hg; have hcz5_0 : w4.cell? ⟨gb119, 0, none⟩ = some (.slice A0_0 l0_0.length c0_0) := (blk_cell BK119.out 0).trans rfl; have hcz5_1 : w4.cell? ⟨gb119, 1, none⟩ = some (.slice A0_1 l0_1.length c0_1) := (blk_cell BK119.out 1).trans rfl; have hfz5_0 := blk_frozen BK119.out 0; have hfz5_1 := blk_frozen BK119.out 1) | (go_at_call 67; (repeat rw [i64_w]); (with_reducible refine (spec_SizeOf.calls k _ _ l0_0 t120 _ ?side1 ?side2 A2.out).mono ?_); (case side1 => exact cU (Kd.C_below HR0_0.out HB.out)); (case side2 => exact HC0_0.out); rintro e w' ⟨rfl, ⟨nd, rfl⟩⟩; (try first | exact ⟨rfl, _, World.drewN_drewN _ _ _⟩ | exact ⟨rfl, _, Eq.trans (World.drewN_drewN _ _ _) (congrArg (World.drewN _) (Nat.add_assoc _ _ _))⟩)))
    repeat (go_quiet ((go_at_call 67; (repeat rw [i64_w]); (with_reducible refine (spec_SizeOf.calls k _ _ l0_0 t120 _ ?side1 ?side2 A2.out).mono ?_); (case side1 => exact cU (Kd.C_below HR0_0.out HB.out)); (case side2 => exact HC0_0.out); rintro e w' ⟨rfl, ⟨nd, rfl⟩⟩; (try first | exact ⟨rfl, _, World.drewN_drewN _ _ _⟩ | exact ⟨rfl, _, Eq.trans (World.drewN_drewN _ _ _) (congrArg (World.drewN _) (Nat.add_assoc _ _ _))⟩))); try go_wp2_with (first | ((with_reducible refine gate_dst (N := 1) rfl ?_); refine box_event ?hg (N := 1) ?hd (cs := #[.slice A0_0 l0_0.length c0_0, .slice A0_1 l0_1.length c0_1]) (t := 36) ?hr ?_; (case hd => rfl); (case hg => rfl); (case hr => first | (go_simp; done) | (go_simp; rfl)); intro gb119 hg w4 hbox hb; have n0_ := Aside0.mk (below_step (bU HB.out) hb); have n1_ := Aside0.mk (hbox); have n2_ := Aside0.mk ((by rw [hg]; exact (below_size (bU HB.out)) : w.heap.size ≤ gb119)); have n3_ := Aside0.mk ((by rw [hg]; exact (below_size (bU HB.out)) : w.heap.size ≤ gb119)); clear HB; have HB := n0_; have BK119 := n1_; have GW119 := n2_; have GE119 := n3_; clear n0_ n1_ n2_ n3_; clear hb hbox hg; have hcz5_0 : w4.cell? ⟨gb119, 0, none⟩ = some (.slice A0_0 l0_0.length c0_0) := (blk_cell BK119.out 0).trans rfl; have hcz5_1 : w4.cell? ⟨gb119, 1, none⟩ = some (.slice A0_1 l0_1.length c0_1) := (blk_cell BK119.out 1).trans rfl; have hfz5_0 := blk_frozen BK119.out 0; have hfz5_1 := blk_frozen BK119.out 1) | (go_at_call 67; (repeat rw [i64_w]); (with_reducible refine (spec_SizeOf.calls k _ _ l0_0 t120 _ ?side1 ?side2 A2.out).mono ?_); (case side1 => exact cU (Kd.C_below HR0_0.out HB.out)); (case side2 => exact HC0_0.out); rintro e w' ⟨rfl, ⟨nd, rfl⟩⟩; (try first | exact ⟨rfl, _, World.drewN_drewN _ _ _⟩ | exact ⟨rfl, _, Eq.trans (World.drewN_drewN _ _ _) (congrArg (World.drewN _) (Nat.add_assoc _ _ _))⟩))))
    go_loopg [3] k (fun kq v3 w' => ∃ (x3_1 : Int), v3 = .int .i64 x3_1 ∧ Aside0 (spec_ArrayOk.l0 kq x3_1 l0_0 l0_1 = some r) ∧ Aside0 (kq ≤ k) ∧ Aside0 (w'.heap[gb119]? = some (.cells #[(.slice A0_0 l0_0.length c0_0), (.slice A0_1 l0_1.length c0_1)] 36 (0, 0))) ∧ Aside0 (Below w.heap.size w w'))
    case atStart => exact ⟨(0), (by first | rfl | (simp; done) | (simp [*]; done)), H', ⟨Nat.le_refl _⟩, ⟨by (with_reducible repeat (first | refine blk_drewN ?_ _ | refine blk_drew ?_ | refine blk_alloc ?_ _)); exact BK119.out⟩, ⟨by repeat (first | (with_reducible first | exact HB.out | apply below_alloc | apply pw_below_drewN | apply below_drew1 | refine below_set ?_ GE119.out) | exact HB.out)⟩⟩
    case round =>
      clear H'
      try clear p2
      try clear c3
      try clear c3b0
      try clear c3b1
      try clear hcz5_0
      try clear hcz5_1
      try clear hfz5_0
      try clear hfz5_1
      obtain ⟨x3_1, rfl, HA, HK1, BK119, HB⟩ := hrel
      cases gk with
      | zero => exact absurd HA.out (by simp [spec_ArrayOk.l0])
      | succ k1 =>
        have H := HA.out
        clear HA
        simp only [spec_ArrayOk.l0] at H
        by_cases c6 : x3_1 < (l0_1.length : Int)
        · rw [if_pos c6] at H
          have c6b0 : decide (x3_1 < (l0_1.length : Int)) = true := decide_eq_true c6
          clear c6
          by_cases c7 : 0 ≤ x3_1
          · rw [if_pos c7] at H
            have c7b0 : decide (0 ≤ x3_1) = true := decide_eq_true c7
            clear c7
            replace H := Option.bind_eq_some_iff.mp H
            obtain ⟨t122, A80, H⟩ := H
            replace H : (if t122 = true then (spec_ArrayOk.l0 k1 (wrap64 (x3_1 + 1)) l0_0 l0_1) else (some false)) = some r := H
            have A8 := Aside0.mk A80
            clear A80
            by_cases c9 : t122 = true
            · subst c9
              have H1 : (spec_ArrayOk.l0 k1 (wrap64 (x3_1 + 1)) l0_0 l0_1) = some r := by rw [if_pos rfl] at H; exact H
              clear H
              have H := H1
              clear H1
              have H' := Aside0.mk H
              clear H
              have hcz10_0 : wr.cell? ⟨gb119, 0, none⟩ = some (.slice A0_0 l0_0.length c0_0) := (blk_cell BK119.out 0).trans rfl
              have hcz10_1 : wr.cell? ⟨gb119, 1, none⟩ = some (.slice A0_1 l0_1.length c0_1) := (blk_cell BK119.out 1).trans rfl
              have hfz10_0 := blk_frozen BK119.out 0
              have hfz10_1 := blk_frozen BK119.out 1
              have p121 : 0 ≤ (x3_1 : Int) := of_decide_eq_true (by first | (with_reducible assumption) | assumption)
              have q121 : x3_1 < (l0_1.length : Int) := of_decide_eq_true (by first | (with_reducible assumption) | assumption)
              obtain ⟨ad121, e121, hx121_0⟩ := Kd.at_int HR0_1.out x3_1 p121 q121
              cases e121
              replace hx121_0 := (HB.out.cell (World.block_lt_of_cell? w _ hx121_0)).trans hx121_0
              replace p121 := eq_true p121
              replace q121 := eq_true q121
              go_wp2_with (first | (go_at_call 54; (repeat rw [i64_w]); (with_reducible refine (spec_NumOk.calls (rd l0_1 x3_1) true _ A8.out).mono ?_); rintro e w' ⟨rfl, ⟨nd, rfl⟩⟩; (try first | exact ⟨rfl, _, World.drewN_drewN _ _ _⟩ | exact ⟨rfl, _, Eq.trans (World.drewN_drewN _ _ _) (congrArg (World.drewN _) (Nat.add_assoc _ _ _))⟩)))
              repeat (go_quiet ((go_at_call 54; (repeat rw [i64_w]); (with_reducible refine (spec_NumOk.calls (rd l0_1 x3_1) true _ A8.out).mono ?_); rintro e w' ⟨rfl, ⟨nd, rfl⟩⟩; (try first | exact ⟨rfl, _, World.drewN_drewN _ _ _⟩ | exact ⟨rfl, _, Eq.trans (World.drewN_drewN _ _ _) (congrArg (World.drewN _) (Nat.add_assoc _ _ _))⟩))); try go_wp2_with (first | (go_at_call 54; (repeat rw [i64_w]); (with_reducible refine (spec_NumOk.calls (rd l0_1 x3_1) true _ A8.out).mono ?_); rintro e w' ⟨rfl, ⟨nd, rfl⟩⟩; (try first | exact ⟨rfl, _, World.drewN_drewN _ _ _⟩ | exact ⟨rfl, _, Eq.trans (World.drewN_drewN _ _ _) (congrArg (World.drewN _) (Nat.add_assoc _ _ _))⟩))))
              go_roundg k1
              case measure => have := HK1.out; omega
              case rel => exact ⟨(wrap64 (x3_1 + 1)), (by first | rfl | (simp; done) | (simp [*]; done)), H', ⟨by have := HK1.out; omega⟩, ⟨by (with_reducible repeat (first | refine blk_drewN ?_ _ | refine blk_drew ?_ | refine blk_alloc ?_ _)); exact BK119.out⟩, ⟨by repeat (first | (with_reducible first | exact HB.out | apply below_alloc | apply pw_below_drewN | apply below_drew1 | refine below_set ?_ GE119.out) | exact HB.out)⟩⟩
            · replace c9 := Bool.eq_false_iff.mpr c9
              subst c9
              have H1 : (some false) = some r := by rw [if_neg (show ¬ (false = true) by decide)] at H; exact H
              clear H
              have H := H1
              clear H1
              obtain rfl := Option.some.inj H
              have hcz11_0 : wr.cell? ⟨gb119, 0, none⟩ = some (.slice A0_0 l0_0.length c0_0) := (blk_cell BK119.out 0).trans rfl
              have hcz11_1 : wr.cell? ⟨gb119, 1, none⟩ = some (.slice A0_1 l0_1.length c0_1) := (blk_cell BK119.out 1).trans rfl
              have hfz11_0 := blk_frozen BK119.out 0
              have hfz11_1 := blk_frozen BK119.out 1
              have p121 : 0 ≤ (x3_1 : Int) := of_decide_eq_true (by first | (with_reducible assumption) | assumption)
              have q121 : x3_1 < (l0_1.length : Int) := of_decide_eq_true (by first | (with_reducible assumption) | assumption)
              obtain ⟨ad121, e121, hx121_0⟩ := Kd.at_int HR0_1.out x3_1 p121 q121
              cases e121
              replace hx121_0 := (HB.out.cell (World.block_lt_of_cell? w _ hx121_0)).trans hx121_0
              replace p121 := eq_true p121
              replace q121 := eq_true q121
              go_wp2_with (first | (go_at_call 54; (repeat rw [i64_w]); (with_reducible refine (spec_NumOk.calls (rd l0_1 x3_1) false _ A8.out).mono ?_); rintro e w' ⟨rfl, ⟨nd, rfl⟩⟩; (try first | exact ⟨rfl, _, World.drewN_drewN _ _ _⟩ | exact ⟨rfl, _, Eq.trans (World.drewN_drewN _ _ _) (congrArg (World.drewN _) (Nat.add_assoc _ _ _))⟩)))
              repeat (go_quiet ((go_at_call 54; (repeat rw [i64_w]); (with_reducible refine (spec_NumOk.calls (rd l0_1 x3_1) false _ A8.out).mono ?_); rintro e w' ⟨rfl, ⟨nd, rfl⟩⟩; (try first | exact ⟨rfl, _, World.drewN_drewN _ _ _⟩ | exact ⟨rfl, _, Eq.trans (World.drewN_drewN _ _ _) (congrArg (World.drewN _) (Nat.add_assoc _ _ _))⟩))); try go_wp2_with (first | (go_at_call 54; (repeat rw [i64_w]); (with_reducible refine (spec_NumOk.calls (rd l0_1 x3_1) false _ A8.out).mono ?_); rintro e w' ⟨rfl, ⟨nd, rfl⟩⟩; (try first | exact ⟨rfl, _, World.drewN_drewN _ _ _⟩ | exact ⟨rfl, _, Eq.trans (World.drewN_drewN _ _ _) (congrArg (World.drewN _) (Nat.add_assoc _ _ _))⟩))))
              go_ret
              exact ⟨by first | rfl | (simp [errW_none, errW_some] <;> rfl) | (simp [*, errW_none, errW_some] <;> rfl), by repeat (first | (with_reducible first | exact HB.out | apply below_alloc | apply pw_below_drewN | apply below_drew1 | refine below_set ?_ GE119.out) | exact HB.out)⟩
          · rw [if_neg c7] at H
            exact absurd H (by simp)
        · rw [if_neg c6] at H
          have c6b0 : decide (x3_1 < (l0_1.length : Int)) = false := decide_eq_false c6
          clear c6
          obtain rfl := Option.some.inj H
          have hcz12_0 : wr.cell? ⟨gb119, 0, none⟩ = some (.slice A0_0 l0_0.length c0_0) := (blk_cell BK119.out 0).trans rfl
          have hcz12_1 : wr.cell? ⟨gb119, 1, none⟩ = some (.slice A0_1 l0_1.length c0_1) := (blk_cell BK119.out 1).trans rfl
          have hfz12_0 := blk_frozen BK119.out 0
          have hfz12_1 := blk_frozen BK119.out 1
          go_wp2
          repeat (go_quiet (fail); try go_wp2)
          go_ret
          exact ⟨by first | rfl | (simp [errW_none, errW_some] <;> rfl) | (simp [*, errW_none, errW_some] <;> rfl), by repeat (first | (with_reducible first | exact HB.out | apply below_alloc | apply pw_below_drewN | apply below_drew1 | refine below_set ?_ GE119.out) | exact HB.out)⟩
  · rw [if_neg c3] at H
    have c3b0 : (t120 == (l0_1.length : Int)) = false := beq_eq_false_iff_ne.mpr c3
    have c3b1 : (t120 != (l0_1.length : Int)) = true := bne_iff_ne.mpr c3
    obtain rfl := Option.some.inj H
    go_enter Try.func33, Try.ntmps33
    go_wp2_with (first | ((with_reducible refine gate_dst (N := 1) rfl ?_); refine box_event ?hg (N := 1) ?hd (cs := #[.slice A0_0 l0_0.length c0_0, .slice A0_1 l0_1.length c0_1]) (t := 36) ?hr ?_; (case hd => rfl); (case hg => rfl); (case hr => first | (go_simp; done) | (go_simp; rfl)); intro gb119 hg w13 hbox hb; have n0_ := Aside0.mk (below_step (bU HB.out) hb); have n1_ := Aside0.mk (hbox); have n2_ := Aside0.mk ((by rw [hg]; exact (below_size (bU HB.out)) : w.heap.size ≤ gb119)); have n3_ := Aside0.mk ((by rw [hg]; exact (below_size (bU HB.out)) : w.heap.size ≤ gb119)); clear HB; have HB := n0_; have BK119 := n1_; have GW119 := n2_; have GE119 := n3_; clear n0_ n1_ n2_ n3_; clear hb hbox hg; have hcz14_0 : w13.cell? ⟨gb119, 0, none⟩ = some (.slice A0_0 l0_0.length c0_0) := (blk_cell BK119.out 0).trans rfl; have hcz14_1 : w13.cell? ⟨gb119, 1, none⟩ = some (.slice A0_1 l0_1.length c0_1) := (blk_cell BK119.out 1).trans rfl; have hfz14_0 := blk_frozen BK119.out 0; have hfz14_1 := blk_frozen BK119.out 1) | (go_at_call 67; (repeat rw [i64_w]); (with_reducible refine (spec_SizeOf.calls k _ _ l0_0 t120 _ ?side1 ?side2 A2.out).mono ?_); (case side1 => exact cU (Kd.C_below HR0_0.out HB.out)); (case side2 => exact HC0_0.out); rintro e w' ⟨rfl, ⟨nd, rfl⟩⟩; (try first | exact ⟨rfl, _, World.drewN_drewN _ _ _⟩ | exact ⟨rfl, _, Eq.trans (World.drewN_drewN _ _ _) (congrArg (World.drewN _) (Nat.add_assoc _ _ _))⟩)))
    repeat (go_quiet ((go_at_call 67; (repeat rw [i64_w]); (with_reducible refine (spec_SizeOf.calls k _ _ l0_0 t120 _ ?side1 ?side2 A2.out).mono ?_); (case side1 => exact cU (Kd.C_below HR0_0.out HB.out)); (case side2 => exact HC0_0.out); rintro e w' ⟨rfl, ⟨nd, rfl⟩⟩; (try first | exact ⟨rfl, _, World.drewN_drewN _ _ _⟩ | exact ⟨rfl, _, Eq.trans (World.drewN_drewN _ _ _) (congrArg (World.drewN _) (Nat.add_assoc _ _ _))⟩))); try go_wp2_with (first | ((with_reducible refine gate_dst (N := 1) rfl ?_); refine box_event ?hg (N := 1) ?hd (cs := #[.slice A0_0 l0_0.length c0_0, .slice A0_1 l0_1.length c0_1]) (t := 36) ?hr ?_; (case hd => rfl); (case hg => rfl); (case hr => first | (go_simp; done) | (go_simp; rfl)); intro gb119 hg w13 hbox hb; have n0_ := Aside0.mk (below_step (bU HB.out) hb); have n1_ := Aside0.mk (hbox); have n2_ := Aside0.mk ((by rw [hg]; exact (below_size (bU HB.out)) : w.heap.size ≤ gb119)); have n3_ := Aside0.mk ((by rw [hg]; exact (below_size (bU HB.out)) : w.heap.size ≤ gb119)); clear HB; have HB := n0_; have BK119 := n1_; have GW119 := n2_; have GE119 := n3_; clear n0_ n1_ n2_ n3_; clear hb hbox hg; have hcz14_0 : w13.cell? ⟨gb119, 0, none⟩ = some (.slice A0_0 l0_0.length c0_0) := (blk_cell BK119.out 0).trans rfl; have hcz14_1 : w13.cell? ⟨gb119, 1, none⟩ = some (.slice A0_1 l0_1.length c0_1) := (blk_cell BK119.out 1).trans rfl; have hfz14_0 := blk_frozen BK119.out 0; have hfz14_1 := blk_frozen BK119.out 1) | (go_at_call 67; (repeat rw [i64_w]); (with_reducible refine (spec_SizeOf.calls k _ _ l0_0 t120 _ ?side1 ?side2 A2.out).mono ?_); (case side1 => exact cU (Kd.C_below HR0_0.out HB.out)); (case side2 => exact HC0_0.out); rintro e w' ⟨rfl, ⟨nd, rfl⟩⟩; (try first | exact ⟨rfl, _, World.drewN_drewN _ _ _⟩ | exact ⟨rfl, _, Eq.trans (World.drewN_drewN _ _ _) (congrArg (World.drewN _) (Nat.add_assoc _ _ _))⟩))))
    go_ret
    exact ⟨by first | rfl | (simp [errW_none, errW_some] <;> rfl) | (simp [*, errW_none, errW_some] <;> rfl), by repeat (first | (with_reducible first | exact HB.out | apply below_alloc | apply pw_below_drewN | apply below_drew1 | refine below_set ?_ GE119.out) | exact HB.out)⟩

/-- A state of type 82 at block g of W; what its slices lead to came in by w0. -/
def IsS82 (w0 W : World) (g : Nat) (f0 : List Int) (f1 : Int) (f2 : Int) : Prop := ∃ A0 c0, W.heap[g]? = some (.cells #[.slice A0 f0.length c0, .int .i64 f1, .int .i64 f2] 82 (0, 0)) ∧ w0.heap.size ≤ g ∧ Kd.C (Kd.int .u8) w0 A0 f0.length f0
theorem IsS82.grown {w0 W : World} {g : Nat} {f0 : List Int} {f1 : Int} {f2 : Int} {W1 : World} {row : Option Nat} (h : IsS82 w0 W g f0 f1 f2) (hw : W.grownBy W1 row) (hne : some g ≠ row) : IsS82 w0 W1 g f0 f1 f2 := by
  obtain ⟨A0, c0, hb, hg, hr0⟩ := h
  exact ⟨A0, c0, blk_grown hb hw hne, hg, hr0⟩
theorem IsS82.own_neN {w0 W : World} {g : Nat} {f0 : List Int} {f1 : Int} {f2 : Int} {α : Type} {d : Kd α} {e : Nat} {base : Nat} {ok : Nat → Prop} {v : Value} {xs : List α} (h : IsS82 w0 W g f0 f1 f2) (ho : Kd.N d e W base ok v xs) (ht : e ≠ 82) : some g ≠ v.ownBlock := by
  obtain ⟨A0, c0, hb, hg, hr0⟩ := h
  exact Kd.N_ne ho hb ht
theorem IsS82.fresh {w0 W : World} {g : Nat} {f0 : List Int} {f1 : Int} {f2 : Int} (h : IsS82 w0 W g f0 f1 f2) : ∀ k, W.heap.size ≤ k → k ≠ g := by
  obtain ⟨A0, c0, hb, hg, hr0⟩ := h
  exact Kd.freshB hb
theorem IsS82.kept {w0 W : World} {g : Nat} {f0 : List Int} {f1 : Int} {f2 : Int} {W1 : World} {S : Nat → Prop} (h : IsS82 w0 W g f0 f1 f2) (hk : Kept W W1 S) (hne : ¬ S g) : IsS82 w0 W1 g f0 f1 f2 := by
  obtain ⟨A0, c0, hb, hg, hr0⟩ := h
  exact ⟨A0, c0, blk_kept hb hk hne, hg, hr0⟩
theorem IsS82.below {w0 W : World} {g : Nat} {f0 : List Int} {f1 : Int} {f2 : Int} {W1 : World} (h : IsS82 w0 W g f0 f1 f2) (hw : Below W.heap.size W W1) : IsS82 w0 W1 g f0 f1 f2 := h.grown (grown_of_below hw none) (by simp)
theorem IsS82.alloc {w0 W : World} {g : Nat} {f0 : List Int} {f1 : Int} {f2 : Int} (h : IsS82 w0 W g f0 f1 f2) (o : Obj) : IsS82 w0 (W.alloc o) g f0 f1 f2 := h.below (below_alloc (Below.refl _ _) o)
theorem IsS82.drewN {w0 W : World} {g : Nat} {f0 : List Int} {f1 : Int} {f2 : Int} (h : IsS82 w0 W g f0 f1 f2) (m : Nat) : IsS82 w0 (W.drewN m) g f0 f1 f2 := h
theorem IsS82.drew {w0 W : World} {g : Nat} {f0 : List Int} {f1 : Int} {f2 : Int} (h : IsS82 w0 W g f0 f1 f2) : IsS82 w0 W.drew g f0 f1 f2 := h
theorem IsS82.at_ {w0 W : World} {g : Nat} {f0 : List Int} {f1 : Int} {f2 : Int} {w' : World} {m : Nat} (hq : W.drewN m = w') (h : IsS82 w0 W g f0 f1 f2) : IsS82 w0 w' g f0 f1 f2 := by subst hq; exact IsS82.drewN h m
theorem IsS82.apart {w0 W : World} {g : Nat} {f0 : List Int} {f1 : Int} {f2 : Int} {α : Type} {d : Kd α} {e : Nat} {base : Nat} {ok : Nat → Prop} {v : Value} {xs : List α} (h : IsS82 w0 W g f0 f1 f2) (ho : d.R e W base ok v xs) (ht : ∀ q, q ∈ e :: d.E → q ≠ 82) : d.R e W base (fun k => ok k ∧ k ≠ g) v xs := by
  obtain ⟨A0, c0, hb, hg, hr0⟩ := h
  exact Kd.R_types ho hb ht
theorem IsS82.own_ne {w0 W : World} {g : Nat} {f0 : List Int} {f1 : Int} {f2 : Int} {α : Type} {d : Kd α} {e : Nat} {base : Nat} {ok : Nat → Prop} {v : Value} {xs : List α} (h : IsS82 w0 W g f0 f1 f2) (ho : d.R e W base ok v xs) (ht : e ≠ 82) : some g ≠ v.ownBlock := by
  obtain ⟨A0, c0, hb, hg, hr0⟩ := h
  exact Kd.R_ne ho hb ht
theorem IsS82.apartQ {w0 W : World} {g : Nat} {f0 : List Int} {f1 : Int} {f2 : Int} {α : Type} {d : Kd α} {e : Nat} {base : Nat} {ok : Nat → Prop} {v : Value} {xs : List α} (h : IsS82 w0 W g f0 f1 f2) (ho : d.Q e W base ok v xs) (ht : ∀ q, q ∈ e :: d.E → q ≠ 82) : d.Q e W base (fun k => ok k ∧ k ≠ g) v xs := by
  obtain ⟨A0, c0, hb, hg, hr0⟩ := h
  exact Kd.Q_types ho hb ht
theorem IsS82.own_neQ {w0 W : World} {g : Nat} {f0 : List Int} {f1 : Int} {f2 : Int} {α : Type} {d : Kd α} {e : Nat} {base : Nat} {ok : Nat → Prop} {v : Value} {xs : List α} (h : IsS82 w0 W g f0 f1 f2) (ho : d.Q e W base ok v xs) (ht : e ≠ 82) : some g ≠ v.ownBlock := by
  obtain ⟨A0, c0, hb, hg, hr0⟩ := h
  exact Kd.Q_ne ho hb ht
theorem IsS82.apartS {w0 W : World} {g : Nat} {f0 : List Int} {f1 : Int} {f2 : Int} {α : Type} {d : Kd α} {e : Nat} {base : Nat} {ok : Nat → Prop} {v : Value} {xs : List α} (h : IsS82 w0 W g f0 f1 f2) (ho : d.S e W base ok v xs) (ht : ∀ q, q ∈ e :: d.E → q ≠ 82) : d.S e W base (fun k => ok k ∧ k ≠ g) v xs := by
  obtain ⟨A0, c0, hb, hg, hr0⟩ := h
  exact Kd.S_types ho hb ht
theorem IsS82.own_neS {w0 W : World} {g : Nat} {f0 : List Int} {f1 : Int} {f2 : Int} {α : Type} {d : Kd α} {e : Nat} {base : Nat} {ok : Nat → Prop} {v : Value} {xs : List α} (h : IsS82 w0 W g f0 f1 f2) (ho : d.S e W base ok v xs) (ht : e ≠ 82) : some g ≠ v.ownBlock := by
  obtain ⟨A0, c0, hb, hg, hr0⟩ := h
  exact Kd.S_ne ho hb ht
theorem IsS82.lt {w0 W : World} {g : Nat} {f0 : List Int} {f1 : Int} {f2 : Int} (h : IsS82 w0 W g f0 f1 f2) : g < W.heap.size := by
  obtain ⟨A0, c0, hb, hg, hr0⟩ := h
  exact blk_lt hb
theorem IsS82.ge {w0 W : World} {g : Nat} {f0 : List Int} {f1 : Int} {f2 : Int} (h : IsS82 w0 W g f0 f1 f2) : w0.heap.size ≤ g := by
  obtain ⟨A0, c0, hb, hg, hr0⟩ := h
  exact hg
theorem IsS82.ne_blk {w0 W : World} {g : Nat} {f0 : List Int} {f1 : Int} {f2 : Int} {a : Nat} {cs : Array Value} {t : TypeId} {fr : Nat × Nat} (h : IsS82 w0 W g f0 f1 f2) (hb2 : W.heap[a]? = some (.cells cs t fr)) (ht : t ≠ 82) : g ≠ a := by
  obtain ⟨A0, c0, hb, hg, hr0⟩ := h
  rintro rfl
  rw [hb] at hb2
  injection hb2 with hb2
  injection hb2 with _ ht2
  exact ht ht2.symm
theorem IsS82.far {w0 W : World} {g : Nat} {f0 : List Int} {f1 : Int} {f2 : Int} {p : Addr} (h : IsS82 w0 W g f0 f1 f2) (hne : g ≠ p.block) (u : Value) : IsS82 w0 (W.setCell p u) g f0 f1 f2 := by
  obtain ⟨A0, c0, hb, hg, hr0⟩ := h
  exact ⟨A0, c0, blk_far hb hne u, hg, hr0⟩
theorem cellS82_0 {W : World} {g : Nat} {A0 : Option Addr} {c0 : Nat} {f0 : List Int} {f1 : Int} {f2 : Int} (h : W.heap[g]? = some (.cells #[.slice A0 f0.length c0, .int .i64 f1, .int .i64 f2] 82 (0, 0))) : W.cell? ⟨g, 0, none⟩ = some (.slice A0 f0.length c0) := (blk_cell h 0).trans rfl
theorem cellS82_1 {W : World} {g : Nat} {A0 : Option Addr} {c0 : Nat} {f0 : List Int} {f1 : Int} {f2 : Int} (h : W.heap[g]? = some (.cells #[.slice A0 f0.length c0, .int .i64 f1, .int .i64 f2] 82 (0, 0))) : W.cell? ⟨g, 1, none⟩ = some (.int .i64 f1) := (blk_cell h 1).trans rfl
theorem IsS82.set_1 {w0 W : World} {g : Nat} {f0 : List Int} {f1 : Int} {f2 : Int} (h : IsS82 w0 W g f0 f1 f2) (x : Int) : IsS82 w0 (W.setCell ⟨g, 1, none⟩ (.int .i64 x)) g f0 x f2 := by
  obtain ⟨A0, c0, hb, hg, hr0⟩ := h
  exact ⟨A0, c0, by simpa using blk_set hb 1 (.int .i64 x), hg, hr0⟩
theorem cellS82_2 {W : World} {g : Nat} {A0 : Option Addr} {c0 : Nat} {f0 : List Int} {f1 : Int} {f2 : Int} (h : W.heap[g]? = some (.cells #[.slice A0 f0.length c0, .int .i64 f1, .int .i64 f2] 82 (0, 0))) : W.cell? ⟨g, 2, none⟩ = some (.int .i64 f2) := (blk_cell h 2).trans rfl
theorem IsS82.set_2 {w0 W : World} {g : Nat} {f0 : List Int} {f1 : Int} {f2 : Int} (h : IsS82 w0 W g f0 f1 f2) (x : Int) : IsS82 w0 (W.setCell ⟨g, 2, none⟩ (.int .i64 x)) g f0 f1 x := by
  obtain ⟨A0, c0, hb, hg, hr0⟩ := h
  exact ⟨A0, c0, by simpa using blk_set hb 2 (.int .i64 x), hg, hr0⟩
theorem IsS82.new (w0 W : World) (A0 : Option Addr) (c0 : Nat) (f0 : List Int) (f1 : Int) (f2 : Int) (hB : Below w0.heap.size w0 W) (hr0 : Kd.C (Kd.int .u8) w0 A0 f0.length f0) : IsS82 w0 (W.alloc (.cells #[.slice A0 f0.length c0, .int .i64 f1, .int .i64 f2] 82)) W.heap.size f0 f1 f2 := ⟨A0, c0, by simpa using heap_alloc_new W _, hB.size, hr0⟩

/-! ### spec_l1New: function 46 -/
def spec_l1New.l0 : Nat → List Int → Int → Int → Option (List Int × Int × Int)
  | 0, _, _, _ => none
  | k + 1, x0, x3, x4 => if x4 < (x0.length : Int) then (if x4 < 4000 then (if 0 ≤ x4 then (spec_l1New.l0 k x0 (Go.bits .and .i64 (wrap64 ((wrap64 ((wrap64 (x3 * 131)) + (wrap64 (rd x0 x4)))) + 7)) 1073741823) (wrap64 (x4 + 1))) else (none)) else (some (x0, 0, x3))) else (some (x0, 0, x3))
def spec_l1New.f (k : Nat) (l0 : List Int) : Option (List Int × Int × Int) := spec_l1New.l0 k l0 (wrap64 (18218 + (l0.length : Int))) 0
theorem spec_l1New.mono_l : ∀ k, (∀ y0 y1 y2, LeO (spec_l1New.l0 k y0 y1 y2) (spec_l1New.l0 (k + 1) y0 y1 y2))
  | 0 => fun _ _ _ r h => by simp [spec_l1New.l0] at h
  | k + 1 => by
    have ih0 := spec_l1New.mono_l k
    · intro y0 y1 y2
      unfold spec_l1New.l0
      repeat' first
      | (with_reducible exact ih0 _ _ _)
      | (with_reducible exact LeO.refl _)
      | (with_reducible exact LeO.none _)
      | (with_reducible refine LeO.ite ?_ ?_)
      | (with_reducible refine LeO.bind ?_ (fun _ => ?_))
      | exact ih0 _ _ _
      | exact LeO.none _
      | refine LeO.ite ?_ ?_
      | refine LeO.bind ?_ (fun _ => ?_)
theorem spec_l1New.mono : ∀ a0 k, LeO (spec_l1New.f k a0) (spec_l1New.f (k + 1) a0) := by
  intro a0 k
  have ih0 := spec_l1New.mono_l k
  unfold spec_l1New.f
  repeat' first
      | (with_reducible exact ih0 _ _ _)
      | (with_reducible exact LeO.refl _)
      | (with_reducible exact LeO.none _)
      | (with_reducible refine LeO.ite ?_ ?_)
      | (with_reducible refine LeO.bind ?_ (fun _ => ?_))
      | exact ih0 _ _ _
      | exact LeO.none _
      | refine LeO.ite ?_ ?_
      | refine LeO.bind ?_ (fun _ => ?_)
set_option maxHeartbeats 8000000 in
set_option maxRecDepth 100000 in
theorem spec_l1New.calls (k : Nat) (A0 : Option Addr) (c0 : Nat) (l0 : List Int) (r1 : List Int) (r2 : Int) (r3 : Int) (w0 w : World) (hB : Below w0.heap.size w0 w) (hr0 : Kd.C (Kd.int .u8) w0 A0 l0.length l0) (hc0 : l0.length ≤ c0) (h : spec_l1New.f k l0 = some (r1, r2, r3)) :
    Calls Try.prog 46 #[.slice A0 l0.length c0] w fun e w' => ∃ g_ : Nat, e = .returned (.pointer (some ⟨g_, 0, none⟩)) ∧ IsS82 w0 w' g_ r1 r2 r3 ∧ Below w0.heap.size w0 w' ∧ Below w.heap.size w w' := by
  have hu82 := Try.underlying82
  have HR0 := Aside0.mk hr0
  have HC0 := Aside0.mk hc0
  clear hr0 hc0
  have HBW := Aside0.mk (Below.refl w.heap.size w)
  have HW0 := Aside0.mk hB.size
  have HB := Aside0.mk hB
  clear hB
  have H : (spec_l1New.l0 k l0 (wrap64 (18218 + (l0.length : Int))) 0) = some (r1, r2, r3) := h
  clear h
  have H' := Aside0.mk H
  clear H
  go_enter Try.func46, Try.ntmps46
  go_wp2
  go_loopg [3, 4] k (fun kq v3 v4 w' => ∃ (x3_1 : Int) (x4_1 : Int), v3 = .int .i64 x3_1 ∧ v4 = .int .i64 x4_1 ∧ Aside0 (spec_l1New.l0 kq l0 x3_1 x4_1 = some (r1, r2, r3)) ∧ Aside0 (kq ≤ k) ∧ Aside0 (Below w0.heap.size w0 w') ∧ Aside0 (Below w.heap.size w w'))
  case atStart => exact ⟨(wrap64 (18218 + (l0.length : Int))), (0), (by first | rfl | (simp; done) | (simp [*]; done)), (by first | rfl | (simp; done) | (simp [*]; done)), H', ⟨Nat.le_refl _⟩, ⟨by repeat (first | (with_reducible first | exact HB.out | apply below_alloc | apply pw_below_drewN | apply below_drew1) | exact HB.out)⟩, ⟨by repeat (first | (with_reducible first | exact HBW.out | apply below_alloc | apply pw_below_drewN | apply below_drew1) | exact HBW.out)⟩⟩
  case round =>
    clear H' HBW
    obtain ⟨x3_1, x4_1, rfl, rfl, HA, HK1, HB, HBW⟩ := hrel
    cases gk with
    | zero => exact absurd HA.out (by simp [spec_l1New.l0])
    | succ k1 =>
      have H := HA.out
      clear HA
      simp only [spec_l1New.l0] at H
      by_cases c2 : x4_1 < (l0.length : Int)
      · rw [if_pos c2] at H
        have c2b0 : decide (x4_1 < (l0.length : Int)) = true := decide_eq_true c2
        clear c2
        by_cases c3 : x4_1 < 4000
        · rw [if_pos c3] at H
          have c3b0 : decide (x4_1 < 4000) = true := decide_eq_true c3
          clear c3
          by_cases c4 : 0 ≤ x4_1
          · rw [if_pos c4] at H
            have c4b0 : decide (0 ≤ x4_1) = true := decide_eq_true c4
            clear c4
            have H' := Aside0.mk H
            clear H
            have p123 : 0 ≤ (x4_1 : Int) := of_decide_eq_true (by first | (with_reducible assumption) | assumption)
            have q123 : x4_1 < (l0.length : Int) := of_decide_eq_true (by first | (with_reducible assumption) | assumption)
            obtain ⟨ad123, e123, hx123_0⟩ := Kd.at_int HR0.out x4_1 p123 q123
            cases e123
            replace hx123_0 := pw_cell_below HB.out hx123_0
            replace p123 := eq_true p123
            replace q123 := eq_true q123
            go_wp2
            go_roundg k1
            case measure => have := HK1.out; omega
            case rel => exact ⟨(Go.bits .and .i64 (wrap64 ((wrap64 ((wrap64 (x3_1 * 131)) + (wrap64 (rd l0 x4_1)))) + 7)) 1073741823), (wrap64 (x4_1 + 1)), (by first | rfl | (simp; done) | (simp [*]; done)), (by first | rfl | (simp; done) | (simp [*]; done)), H', ⟨by have := HK1.out; omega⟩, ⟨by repeat (first | (with_reducible first | exact HB.out | apply below_alloc | apply pw_below_drewN | apply below_drew1) | exact HB.out)⟩, ⟨by repeat (first | (with_reducible first | exact HBW.out | apply below_alloc | apply pw_below_drewN | apply below_drew1) | exact HBW.out)⟩⟩
          · rw [if_neg c4] at H
            exact absurd H (by simp)
        · rw [if_neg c3] at H
          have c3b0 : decide (x4_1 < 4000) = false := decide_eq_false c3
          clear c3
          simp only [Option.some.injEq, Prod.mk.injEq] at H
          obtain ⟨rfl, rfl, rfl⟩ := H
          go_wp2
          go_ret
          exact ⟨_, rfl, IsS82.new w0 _ _ _ _ _ _ HB.out HR0.out, below_alloc HB.out _, below_alloc HBW.out _⟩
      · rw [if_neg c2] at H
        have c2b0 : decide (x4_1 < (l0.length : Int)) = false := decide_eq_false c2
        clear c2
        simp only [Option.some.injEq, Prod.mk.injEq] at H
        obtain ⟨rfl, rfl, rfl⟩ := H
        go_wp2
        go_ret
        exact ⟨_, rfl, IsS82.new w0 _ _ _ _ _ _ HB.out HR0.out, below_alloc HB.out _, below_alloc HBW.out _⟩

/-! ### spec_l1Byte: function 104 -/
def spec_l1Byte.f (s0_0 : List Int) (s0_1 : Int) (s0_2 : Int) : Option (Int × Int × Int) := if s0_1 < (s0_0.length : Int) then (if 0 ≤ s0_1 then (some (Go.bits .and .i64 (wrap64 ((Go.bits .and .i64 (Go.bits .xor .i64 ((wrap64 ((wrap64 (s0_2 * 6364136223846793005)) + 1442695040888963407)) / 8589934592) ((wrap64 ((wrap64 (s0_2 * 6364136223846793005)) + 1442695040888963407)) / 35184372088832)) 255) + (wrap64 (rd s0_0 s0_1)))) 255, wrap64 (s0_1 + 1), wrap64 ((wrap64 (s0_2 * 6364136223846793005)) + 1442695040888963407))) else (none)) else (some (Go.bits .and .i64 (Go.bits .xor .i64 ((wrap64 ((wrap64 (s0_2 * 6364136223846793005)) + 1442695040888963407)) / 8589934592) ((wrap64 ((wrap64 (s0_2 * 6364136223846793005)) + 1442695040888963407)) / 35184372088832)) 255, s0_1, wrap64 ((wrap64 (s0_2 * 6364136223846793005)) + 1442695040888963407)))
set_option maxHeartbeats 8000000 in
set_option maxRecDepth 100000 in
theorem spec_l1Byte.calls (g : Nat) (s0_0 : List Int) (s0_1 : Int) (s0_2 : Int) (r1 : Int) (r2 : Int) (r3 : Int) (w0 w : World) (hI : IsS82 w0 w g s0_0 s0_1 s0_2) (hB : Below w0.heap.size w0 w) (h : spec_l1Byte.f s0_0 s0_1 s0_2 = some (r1, r2, r3)) :
    Calls Try.prog 104 #[.pointer (some ⟨g, 0, none⟩)] w fun e w' => e = .returned (.int .i64 r1) ∧ IsS82 w0 w' g s0_0 r2 r3 ∧ Below w0.heap.size w0 w' ∧ KeepBut w w' g none := by
  have HI0 := Aside0.mk hI
  have HK := Aside0.mk (KeepBut.refl w g none)
  have HL := Aside0.mk hB.size
  clear hI
  have HW0 := Aside0.mk hB.size
  have HB := Aside0.mk hB
  clear hB
  have H : (if s0_1 < (s0_0.length : Int) then (if 0 ≤ s0_1 then (some (Go.bits .and .i64 (wrap64 ((Go.bits .and .i64 (Go.bits .xor .i64 ((wrap64 ((wrap64 (s0_2 * 6364136223846793005)) + 1442695040888963407)) / 8589934592) ((wrap64 ((wrap64 (s0_2 * 6364136223846793005)) + 1442695040888963407)) / 35184372088832)) 255) + (wrap64 (rd s0_0 s0_1)))) 255, wrap64 (s0_1 + 1), wrap64 ((wrap64 (s0_2 * 6364136223846793005)) + 1442695040888963407))) else (none)) else (some (Go.bits .and .i64 (Go.bits .xor .i64 ((wrap64 ((wrap64 (s0_2 * 6364136223846793005)) + 1442695040888963407)) / 8589934592) ((wrap64 ((wrap64 (s0_2 * 6364136223846793005)) + 1442695040888963407)) / 35184372088832)) 255, s0_1, wrap64 ((wrap64 (s0_2 * 6364136223846793005)) + 1442695040888963407)))) = some (r1, r2, r3) := h
  clear h
  by_cases c2 : s0_1 < (s0_0.length : Int)
  · rw [if_pos c2] at H
    have c2b0 : decide (s0_1 < (s0_0.length : Int)) = true := decide_eq_true c2
    clear c2
    by_cases c3 : 0 ≤ s0_1
    · rw [if_pos c3] at H
      have c3b0 : decide (0 ≤ s0_1) = true := decide_eq_true c3
      clear c3
      simp only [Option.some.injEq, Prod.mk.injEq] at H
      obtain ⟨rfl, rfl, rfl⟩ := H
      obtain ⟨ASz4_0, cSz4_0, HGz4, hgz4, HSz4_0⟩ := HI0.out
      have hcz4_0 := cellS82_0 HGz4
      have hcz4_1 := cellS82_1 HGz4
      have hcz4_2 := cellS82_2 HGz4
      have hfz4_1 := blk_frozen HGz4 1
      have hfz4_2 := blk_frozen HGz4 2
      clear HGz4 hgz4
      have p126 : 0 ≤ (s0_1 : Int) := of_decide_eq_true (by first | (with_reducible assumption) | assumption)
      have q126 : s0_1 < (s0_0.length : Int) := of_decide_eq_true (by first | (with_reducible assumption) | assumption)
      obtain ⟨ad126, e126, hx126_0⟩ := Kd.at_int HSz4_0 s0_1 p126 q126
      cases e126
      have hn126_0 : ad126.block ≠ g := Nat.ne_of_lt (Nat.lt_of_lt_of_le (by have := World.block_lt_of_cell? _ _ hx126_0; first | rwa [add_block] at this | exact this) (IsS82.ge HI0.out))
      replace hx126_0 := pw_cell_below HB.out hx126_0
      replace hx126_0 := (cell_far (p := ⟨g, 2, none⟩) (by first | (rw [add_block]; exact hn126_0) | (show (Addr.add _ _).block ≠ _; rw [add_block]; exact hn126_0) | exact hn126_0) (.int .i64 (wrap64 ((wrap64 (s0_2 * 6364136223846793005)) + 1442695040888963407)))).trans hx126_0
      (try have hy126_0 := fun (n_ : Nat) => (show (((w.drewN n_).setCell ⟨g, 2, none⟩ (.int .i64 (wrap64 ((wrap64 (s0_2 * 6364136223846793005)) + 1442695040888963407))))).cell? _ = some _ from hx126_0))
      clear hn126_0
      replace p126 := eq_true p126
      replace q126 := eq_true q126
      go_enter Try.func104, Try.ntmps104
      go_wp2
      repeat (go_quiet (fail); try go_wp2)
      go_ret
      exact ⟨by first | rfl | (simp [errW_none, errW_some] <;> rfl) | (simp [*, errW_none, errW_some] <;> rfl), by repeat (first | (with_reducible first | exact HI0.out | apply IsS82.alloc | apply IsS82.drewN | apply IsS82.drew | apply IsS82.set_1 | apply IsS82.set_2) | exact HI0.out), by repeat (first | (with_reducible first | exact HB.out | apply below_alloc | apply pw_below_drewN | apply below_drew1 | refine below_set ?_ (IsS82.ge HI0.out)) | exact HB.out), by repeat (first | (with_reducible first | exact HK.out | apply KeepBut.set_ | apply keep_drewN | apply keep_drew | apply keep_alloc) | exact HK.out)⟩
    · rw [if_neg c3] at H
      exact absurd H (by simp)
  · rw [if_neg c2] at H
    have c2b0 : decide (s0_1 < (s0_0.length : Int)) = false := decide_eq_false c2
    clear c2
    simp only [Option.some.injEq, Prod.mk.injEq] at H
    obtain ⟨rfl, rfl, rfl⟩ := H
    obtain ⟨ASz5_0, cSz5_0, HGz5, hgz5, HSz5_0⟩ := HI0.out
    have hcz5_0 := cellS82_0 HGz5
    have hcz5_1 := cellS82_1 HGz5
    have hcz5_2 := cellS82_2 HGz5
    have hfz5_1 := blk_frozen HGz5 1
    have hfz5_2 := blk_frozen HGz5 2
    clear HGz5 hgz5
    go_enter Try.func104, Try.ntmps104
    go_wp2
    repeat (go_quiet (fail); try go_wp2)
    go_ret
    exact ⟨by first | rfl | (simp [errW_none, errW_some] <;> rfl) | (simp [*, errW_none, errW_some] <;> rfl), by repeat (first | (with_reducible first | exact HI0.out | apply IsS82.alloc | apply IsS82.drewN | apply IsS82.drew | apply IsS82.set_1 | apply IsS82.set_2) | exact HI0.out), by repeat (first | (with_reducible first | exact HB.out | apply below_alloc | apply pw_below_drewN | apply below_drew1 | refine below_set ?_ (IsS82.ge HI0.out)) | exact HB.out), by repeat (first | (with_reducible first | exact HK.out | apply KeepBut.set_ | apply keep_drewN | apply keep_drew | apply keep_alloc) | exact HK.out)⟩

/-! ### spec_l1Below: function 87 -/
def spec_l1Below.f (s0_0 : List Int) (s0_1 : Int) (s0_2 : Int) (a1 : Int) : Option (Int × Int × Int) := if a1 ≤ 0 then (some (0, s0_1, s0_2)) else (if a1 ≤ 256 then ((spec_l1Byte.f s0_0 s0_1 s0_2).bind fun bt127 => (if a1 = 0 then (none) else (some (Int.tmod bt127.1 a1, bt127.2.1, bt127.2.2)))) else ((spec_l1Byte.f s0_0 s0_1 s0_2).bind fun bt130 => ((spec_l1Byte.f s0_0 bt130.2.1 bt130.2.2).bind fun bt133 => ((spec_l1Byte.f s0_0 bt133.2.1 bt133.2.2).bind fun bt136 => ((spec_l1Byte.f s0_0 bt136.2.1 bt136.2.2).bind fun bt139 => (if a1 = 0 then (none) else (some (Int.tmod (wrap64 ((wrap64 ((wrap64 ((wrap64 (bt130.1 * 16777216)) + (wrap64 (bt133.1 * 65536)))) + (wrap64 (bt136.1 * 256)))) + bt139.1)) a1, bt139.2.1, bt139.2.2))))))))
set_option maxHeartbeats 8000000 in
set_option maxRecDepth 100000 in
theorem spec_l1Below.calls (g : Nat) (s0_0 : List Int) (s0_1 : Int) (s0_2 : Int) (a1 : Int) (r1 : Int) (r2 : Int) (r3 : Int) (w0 w : World) (hI : IsS82 w0 w g s0_0 s0_1 s0_2) (hB : Below w0.heap.size w0 w) (h : spec_l1Below.f s0_0 s0_1 s0_2 a1 = some (r1, r2, r3)) :
    Calls Try.prog 87 #[.pointer (some ⟨g, 0, none⟩), .int .i64 a1] w fun e w' => e = .returned (.int .i64 r1) ∧ IsS82 w0 w' g s0_0 r2 r3 ∧ Below w0.heap.size w0 w' ∧ KeepBut w w' g none := by
  have HI0 := Aside0.mk hI
  have HK := Aside0.mk (KeepBut.refl w g none)
  have HL := Aside0.mk hB.size
  clear hI
  have HW0 := Aside0.mk hB.size
  have HB := Aside0.mk hB
  clear hB
  have H : (if a1 ≤ 0 then (some (0, s0_1, s0_2)) else (if a1 ≤ 256 then ((spec_l1Byte.f s0_0 s0_1 s0_2).bind fun bt127 => (if a1 = 0 then (none) else (some (Int.tmod bt127.1 a1, bt127.2.1, bt127.2.2)))) else ((spec_l1Byte.f s0_0 s0_1 s0_2).bind fun bt130 => ((spec_l1Byte.f s0_0 bt130.2.1 bt130.2.2).bind fun bt133 => ((spec_l1Byte.f s0_0 bt133.2.1 bt133.2.2).bind fun bt136 => ((spec_l1Byte.f s0_0 bt136.2.1 bt136.2.2).bind fun bt139 => (if a1 = 0 then (none) else (some (Int.tmod (wrap64 ((wrap64 ((wrap64 ((wrap64 (bt130.1 * 16777216)) + (wrap64 (bt133.1 * 65536)))) + (wrap64 (bt136.1 * 256)))) + bt139.1)) a1, bt139.2.1, bt139.2.2))))))))) = some (r1, r2, r3) := h
  clear h
  by_cases c3 : a1 ≤ 0
  · rw [if_pos c3] at H
    have c3b0 : decide (a1 ≤ 0) = true := decide_eq_true c3
    clear c3
    simp only [Option.some.injEq, Prod.mk.injEq] at H
    obtain ⟨rfl, rfl, rfl⟩ := H
    go_enter Try.func87, Try.ntmps87
    go_wp2
    go_ret
    exact ⟨by first | rfl | (simp [errW_none, errW_some] <;> rfl) | (simp [*, errW_none, errW_some] <;> rfl), by repeat (first | (with_reducible first | exact HI0.out | apply IsS82.alloc | apply IsS82.drewN | apply IsS82.drew | apply IsS82.set_1 | apply IsS82.set_2) | exact HI0.out), by repeat (first | (with_reducible first | exact HB.out | apply below_alloc | apply pw_below_drewN | apply below_drew1 | refine below_set ?_ (IsS82.ge HI0.out)) | exact HB.out), by repeat (first | (with_reducible first | exact HK.out | apply KeepBut.set_ | apply keep_drewN | apply keep_drew | apply keep_alloc) | exact HK.out)⟩
  · rw [if_neg c3] at H
    have c3b0 : decide (a1 ≤ 0) = false := decide_eq_false c3
    clear c3
    by_cases c4 : a1 ≤ 256
    · rw [if_pos c4] at H
      have c4b0 : decide (a1 ≤ 256) = true := decide_eq_true c4
      clear c4
      replace H := Option.bind_eq_some_iff.mp H
      obtain ⟨⟨t127, t128, t129⟩, A50, H⟩ := H
      replace H : (if a1 = 0 then (none) else (some (Int.tmod t127 a1, t128, t129))) = some (r1, r2, r3) := H
      have A5 := Aside0.mk A50
      clear A50
      by_cases c6 : a1 = 0
      · rw [if_pos c6] at H
        exact absurd H (by simp)
      · rw [if_neg c6] at H
        have c6b0 : (a1 == 0) = false := beq_eq_false_iff_ne.mpr c6
        have c6b1 : (a1 != 0) = true := bne_iff_ne.mpr c6
        simp only [Option.some.injEq, Prod.mk.injEq] at H
        obtain ⟨rfl, rfl, rfl⟩ := H
        go_enter Try.func87, Try.ntmps87
        go_wp2_with (first | ((with_reducible refine gate_callee (f := 104) rfl ?_); refine goesL_ (some 14) rfl rfl Try.func104 (by kernel_rfl) rfl #[.pointer (some ⟨g, 0, none⟩)] rfl (by (try simp only [List.map_toArray, List.map_cons, List.map_nil]); first | done | rfl | (simp only [List.length_drop, List.length_take]; rfl)) ?_; (with_reducible refine (spec_l1Byte.calls g s0_0 s0_1 s0_2 t127 t128 t129 w0 _ ?side1 ?side2 A5.out).mono ?_); (case side1 => repeat (first | (with_reducible first | exact HI0.out | apply IsS82.alloc | apply IsS82.drewN | apply IsS82.drew | apply IsS82.set_1 | apply IsS82.set_2) | exact HI0.out)); (case side2 => repeat (first | (with_reducible first | exact HB.out | apply below_alloc | apply pw_below_drewN | apply below_drew1 | refine below_set ?_ (IsS82.ge HI0.out)) | exact HB.out)); rintro e w7 ⟨rfl, hi, hb, hk⟩; refine ⟨_, rfl, ?_⟩; have n0_ := Aside0.mk (KeepBut.trans (by repeat (first | (with_reducible first | exact HK.out | apply KeepBut.set_ | apply keep_drewN | apply keep_drew | apply keep_alloc) | exact HK.out)) hk (.inl rfl)); have n1_ := Aside0.mk (hb); have n2_ := Aside0.mk (hi); clear HK; clear HB; clear HI0; have HK := n0_; have HB := n1_; have HI0 := n2_; clear n0_ n1_ n2_; (try clear hb); (try clear hb2); (try clear hk); (try clear hi)))
        go_ret
        exact ⟨by first | rfl | (simp [errW_none, errW_some] <;> rfl) | (simp [*, errW_none, errW_some] <;> rfl), by repeat (first | (with_reducible first | exact HI0.out | apply IsS82.alloc | apply IsS82.drewN | apply IsS82.drew | apply IsS82.set_1 | apply IsS82.set_2) | exact HI0.out), by repeat (first | (with_reducible first | exact HB.out | apply below_alloc | apply pw_below_drewN | apply below_drew1 | refine below_set ?_ (IsS82.ge HI0.out)) | exact HB.out), by repeat (first | (with_reducible first | exact HK.out | apply KeepBut.set_ | apply keep_drewN | apply keep_drew | apply keep_alloc) | exact HK.out)⟩
    · rw [if_neg c4] at H
      have c4b0 : decide (a1 ≤ 256) = false := decide_eq_false c4
      clear c4
      replace H := Option.bind_eq_some_iff.mp H
      obtain ⟨⟨t130, t131, t132⟩, A80, H⟩ := H
      replace H : ((spec_l1Byte.f s0_0 t131 t132).bind fun bt133 => ((spec_l1Byte.f s0_0 bt133.2.1 bt133.2.2).bind fun bt136 => ((spec_l1Byte.f s0_0 bt136.2.1 bt136.2.2).bind fun bt139 => (if a1 = 0 then (none) else (some (Int.tmod (wrap64 ((wrap64 ((wrap64 ((wrap64 (t130 * 16777216)) + (wrap64 (bt133.1 * 65536)))) + (wrap64 (bt136.1 * 256)))) + bt139.1)) a1, bt139.2.1, bt139.2.2)))))) = some (r1, r2, r3) := H
      have A8 := Aside0.mk A80
      clear A80
      replace H := Option.bind_eq_some_iff.mp H
      obtain ⟨⟨t133, t134, t135⟩, A90, H⟩ := H
      replace H : ((spec_l1Byte.f s0_0 t134 t135).bind fun bt136 => ((spec_l1Byte.f s0_0 bt136.2.1 bt136.2.2).bind fun bt139 => (if a1 = 0 then (none) else (some (Int.tmod (wrap64 ((wrap64 ((wrap64 ((wrap64 (t130 * 16777216)) + (wrap64 (t133 * 65536)))) + (wrap64 (bt136.1 * 256)))) + bt139.1)) a1, bt139.2.1, bt139.2.2))))) = some (r1, r2, r3) := H
      have A9 := Aside0.mk A90
      clear A90
      replace H := Option.bind_eq_some_iff.mp H
      obtain ⟨⟨t136, t137, t138⟩, A100, H⟩ := H
      replace H : ((spec_l1Byte.f s0_0 t137 t138).bind fun bt139 => (if a1 = 0 then (none) else (some (Int.tmod (wrap64 ((wrap64 ((wrap64 ((wrap64 (t130 * 16777216)) + (wrap64 (t133 * 65536)))) + (wrap64 (t136 * 256)))) + bt139.1)) a1, bt139.2.1, bt139.2.2)))) = some (r1, r2, r3) := H
      have A10 := Aside0.mk A100
      clear A100
      replace H := Option.bind_eq_some_iff.mp H
      obtain ⟨⟨t139, t140, t141⟩, A110, H⟩ := H
      replace H : (if a1 = 0 then (none) else (some (Int.tmod (wrap64 ((wrap64 ((wrap64 ((wrap64 (t130 * 16777216)) + (wrap64 (t133 * 65536)))) + (wrap64 (t136 * 256)))) + t139)) a1, t140, t141))) = some (r1, r2, r3) := H
      have A11 := Aside0.mk A110
      clear A110
      by_cases c12 : a1 = 0
      · rw [if_pos c12] at H
        exact absurd H (by simp)
      · rw [if_neg c12] at H
        have c12b0 : (a1 == 0) = false := beq_eq_false_iff_ne.mpr c12
        have c12b1 : (a1 != 0) = true := bne_iff_ne.mpr c12
        simp only [Option.some.injEq, Prod.mk.injEq] at H
        obtain ⟨rfl, rfl, rfl⟩ := H
        go_enter Try.func87, Try.ntmps87
        go_wp2_with (first | ((with_reducible refine gate_callee (f := 104) rfl ?_); refine goesL_ (some 18) rfl rfl Try.func104 (by kernel_rfl) rfl #[.pointer (some ⟨g, 0, none⟩)] rfl (by (try simp only [List.map_toArray, List.map_cons, List.map_nil]); first | done | rfl | (simp only [List.length_drop, List.length_take]; rfl)) ?_; (with_reducible refine (spec_l1Byte.calls g s0_0 s0_1 s0_2 t130 t131 t132 w0 _ ?side1 ?side2 A8.out).mono ?_); (case side1 => repeat (first | (with_reducible first | exact HI0.out | apply IsS82.alloc | apply IsS82.drewN | apply IsS82.drew | apply IsS82.set_1 | apply IsS82.set_2) | exact HI0.out)); (case side2 => repeat (first | (with_reducible first | exact HB.out | apply below_alloc | apply pw_below_drewN | apply below_drew1 | refine below_set ?_ (IsS82.ge HI0.out)) | exact HB.out)); rintro e w13 ⟨rfl, hi, hb, hk⟩; refine ⟨_, rfl, ?_⟩; have n0_ := Aside0.mk (KeepBut.trans (by repeat (first | (with_reducible first | exact HK.out | apply KeepBut.set_ | apply keep_drewN | apply keep_drew | apply keep_alloc) | exact HK.out)) hk (.inl rfl)); have n1_ := Aside0.mk (hb); have n2_ := Aside0.mk (hi); clear HK; clear HB; clear HI0; have HK := n0_; have HB := n1_; have HI0 := n2_; clear n0_ n1_ n2_; (try clear hb); (try clear hb2); (try clear hk); (try clear hi)) | ((with_reducible refine gate_callee (f := 104) rfl ?_); refine goesL_ (some 20) rfl rfl Try.func104 (by kernel_rfl) rfl #[.pointer (some ⟨g, 0, none⟩)] rfl (by (try simp only [List.map_toArray, List.map_cons, List.map_nil]); first | done | rfl | (simp only [List.length_drop, List.length_take]; rfl)) ?_; (with_reducible refine (spec_l1Byte.calls g s0_0 t131 t132 t133 t134 t135 w0 _ ?side1 ?side2 A9.out).mono ?_); (case side1 => repeat (first | (with_reducible first | exact HI0.out | apply IsS82.alloc | apply IsS82.drewN | apply IsS82.drew | apply IsS82.set_1 | apply IsS82.set_2) | exact HI0.out)); (case side2 => repeat (first | (with_reducible first | exact HB.out | apply below_alloc | apply pw_below_drewN | apply below_drew1 | refine below_set ?_ (IsS82.ge HI0.out)) | exact HB.out)); rintro e w14 ⟨rfl, hi, hb, hk⟩; refine ⟨_, rfl, ?_⟩; have n0_ := Aside0.mk (KeepBut.trans (by repeat (first | (with_reducible first | exact HK.out | apply KeepBut.set_ | apply keep_drewN | apply keep_drew | apply keep_alloc) | exact HK.out)) hk (.inl rfl)); have n1_ := Aside0.mk (hb); have n2_ := Aside0.mk (hi); clear HK; clear HB; clear HI0; have HK := n0_; have HB := n1_; have HI0 := n2_; clear n0_ n1_ n2_; (try clear hb); (try clear hb2); (try clear hk); (try clear hi)) | ((with_reducible refine gate_callee (f := 104) rfl ?_); refine goesL_ (some 22) rfl rfl Try.func104 (by kernel_rfl) rfl #[.pointer (some ⟨g, 0, none⟩)] rfl (by (try simp only [List.map_toArray, List.map_cons, List.map_nil]); first | done | rfl | (simp only [List.length_drop, List.length_take]; rfl)) ?_; (with_reducible refine (spec_l1Byte.calls g s0_0 t134 t135 t136 t137 t138 w0 _ ?side1 ?side2 A10.out).mono ?_); (case side1 => repeat (first | (with_reducible first | exact HI0.out | apply IsS82.alloc | apply IsS82.drewN | apply IsS82.drew | apply IsS82.set_1 | apply IsS82.set_2) | exact HI0.out)); (case side2 => repeat (first | (with_reducible first | exact HB.out | apply below_alloc | apply pw_below_drewN | apply below_drew1 | refine below_set ?_ (IsS82.ge HI0.out)) | exact HB.out)); rintro e w15 ⟨rfl, hi, hb, hk⟩; refine ⟨_, rfl, ?_⟩; have n0_ := Aside0.mk (KeepBut.trans (by repeat (first | (with_reducible first | exact HK.out | apply KeepBut.set_ | apply keep_drewN | apply keep_drew | apply keep_alloc) | exact HK.out)) hk (.inl rfl)); have n1_ := Aside0.mk (hb); have n2_ := Aside0.mk (hi); clear HK; clear HB; clear HI0; have HK := n0_; have HB := n1_; have HI0 := n2_; clear n0_ n1_ n2_; (try clear hb); (try clear hb2); (try clear hk); (try clear hi)) | ((with_reducible refine gate_callee (f := 104) rfl ?_); refine goesL_ (some 24) rfl rfl Try.func104 (by kernel_rfl) rfl #[.pointer (some ⟨g, 0, none⟩)] rfl (by (try simp only [List.map_toArray, List.map_cons, List.map_nil]); first | done | rfl | (simp only [List.length_drop, List.length_take]; rfl)) ?_; (with_reducible refine (spec_l1Byte.calls g s0_0 t137 t138 t139 t140 t141 w0 _ ?side1 ?side2 A11.out).mono ?_); (case side1 => repeat (first | (with_reducible first | exact HI0.out | apply IsS82.alloc | apply IsS82.drewN | apply IsS82.drew | apply IsS82.set_1 | apply IsS82.set_2) | exact HI0.out)); (case side2 => repeat (first | (with_reducible first | exact HB.out | apply below_alloc | apply pw_below_drewN | apply below_drew1 | refine below_set ?_ (IsS82.ge HI0.out)) | exact HB.out)); rintro e w16 ⟨rfl, hi, hb, hk⟩; refine ⟨_, rfl, ?_⟩; have n0_ := Aside0.mk (KeepBut.trans (by repeat (first | (with_reducible first | exact HK.out | apply KeepBut.set_ | apply keep_drewN | apply keep_drew | apply keep_alloc) | exact HK.out)) hk (.inl rfl)); have n1_ := Aside0.mk (hb); have n2_ := Aside0.mk (hi); clear HK; clear HB; clear HI0; have HK := n0_; have HB := n1_; have HI0 := n2_; clear n0_ n1_ n2_; (try clear hb); (try clear hb2); (try clear hk); (try clear hi)))
        go_ret
        exact ⟨by first | rfl | (simp [errW_none, errW_some] <;> rfl) | (simp [*, errW_none, errW_some] <;> rfl), by repeat (first | (with_reducible first | exact HI0.out | apply IsS82.alloc | apply IsS82.drewN | apply IsS82.drew | apply IsS82.set_1 | apply IsS82.set_2) | exact HI0.out), by repeat (first | (with_reducible first | exact HB.out | apply below_alloc | apply pw_below_drewN | apply below_drew1 | refine below_set ?_ (IsS82.ge HI0.out)) | exact HB.out), by repeat (first | (with_reducible first | exact HK.out | apply KeepBut.set_ | apply keep_drewN | apply keep_drew | apply keep_alloc) | exact HK.out)⟩

/-! ### spec_l1Once: function 86 -/
def spec_l1Once.f (s0_0 : List Int) (s0_1 : Int) (s0_2 : Int) (a1 : Int) : Option (Bool × Int × Int) := (spec_l1Below.f s0_0 s0_1 s0_2 a1).bind fun bt142 => (some ((bt142.1 == 0), bt142.2.1, bt142.2.2))
set_option maxHeartbeats 8000000 in
set_option maxRecDepth 100000 in
theorem spec_l1Once.calls (g : Nat) (s0_0 : List Int) (s0_1 : Int) (s0_2 : Int) (a1 : Int) (r1 : Bool) (r2 : Int) (r3 : Int) (w0 w : World) (hI : IsS82 w0 w g s0_0 s0_1 s0_2) (hB : Below w0.heap.size w0 w) (h : spec_l1Once.f s0_0 s0_1 s0_2 a1 = some (r1, r2, r3)) :
    Calls Try.prog 86 #[.pointer (some ⟨g, 0, none⟩), .int .i64 a1] w fun e w' => e = .returned (.bool r1) ∧ IsS82 w0 w' g s0_0 r2 r3 ∧ Below w0.heap.size w0 w' ∧ KeepBut w w' g none := by
  have HI0 := Aside0.mk hI
  have HK := Aside0.mk (KeepBut.refl w g none)
  have HL := Aside0.mk hB.size
  clear hI
  have HW0 := Aside0.mk hB.size
  have HB := Aside0.mk hB
  clear hB
  have H : ((spec_l1Below.f s0_0 s0_1 s0_2 a1).bind fun bt142 => (some ((bt142.1 == 0), bt142.2.1, bt142.2.2))) = some (r1, r2, r3) := h
  clear h
  replace H := Option.bind_eq_some_iff.mp H
  obtain ⟨⟨t142, t143, t144⟩, A30, H⟩ := H
  replace H : (some ((t142 == 0), t143, t144)) = some (r1, r2, r3) := H
  have A3 := Aside0.mk A30
  clear A30
  simp only [Option.some.injEq, Prod.mk.injEq] at H
  obtain ⟨rfl, rfl, rfl⟩ := H
  go_enter Try.func86, Try.ntmps86
  go_wp2_with (first | ((with_reducible refine gate_callee (f := 87) rfl ?_); refine goesL_ (some 7) rfl rfl Try.func87 (by kernel_rfl) rfl #[.pointer (some ⟨g, 0, none⟩), .int .i64 a1] rfl (by (try simp only [List.map_toArray, List.map_cons, List.map_nil]); first | done | rfl | (simp only [List.length_drop, List.length_take]; rfl)) ?_; (with_reducible refine (spec_l1Below.calls g s0_0 s0_1 s0_2 a1 t142 t143 t144 w0 _ ?side1 ?side2 A3.out).mono ?_); (case side1 => repeat (first | (with_reducible first | exact HI0.out | apply IsS82.alloc | apply IsS82.drewN | apply IsS82.drew | apply IsS82.set_1 | apply IsS82.set_2) | exact HI0.out)); (case side2 => repeat (first | (with_reducible first | exact HB.out | apply below_alloc | apply pw_below_drewN | apply below_drew1 | refine below_set ?_ (IsS82.ge HI0.out)) | exact HB.out)); rintro e w4 ⟨rfl, hi, hb, hk⟩; refine ⟨_, rfl, ?_⟩; have n0_ := Aside0.mk (KeepBut.trans (by repeat (first | (with_reducible first | exact HK.out | apply KeepBut.set_ | apply keep_drewN | apply keep_drew | apply keep_alloc) | exact HK.out)) hk (.inl rfl)); have n1_ := Aside0.mk (hb); have n2_ := Aside0.mk (hi); clear HK; clear HB; clear HI0; have HK := n0_; have HB := n1_; have HI0 := n2_; clear n0_ n1_ n2_; (try clear hb); (try clear hb2); (try clear hk); (try clear hi)))
  go_ret
  exact ⟨by first | rfl | (simp [errW_none, errW_some] <;> rfl) | (simp [*, errW_none, errW_some] <;> rfl), by repeat (first | (with_reducible first | exact HI0.out | apply IsS82.alloc | apply IsS82.drewN | apply IsS82.drew | apply IsS82.set_1 | apply IsS82.set_2) | exact HI0.out), by repeat (first | (with_reducible first | exact HB.out | apply below_alloc | apply pw_below_drewN | apply below_drew1 | refine below_set ?_ (IsS82.ge HI0.out)) | exact HB.out), by repeat (first | (with_reducible first | exact HK.out | apply KeepBut.set_ | apply keep_drewN | apply keep_drew | apply keep_alloc) | exact HK.out)⟩

/-! ### spec_l1PickInt: function 95 -/
def spec_l1PickInt.f (s0_0 : List Int) (s0_1 : Int) (s0_2 : Int) (l1 : List Int) : Option (Int × Int × Int) := (spec_l1Below.f s0_0 s0_1 s0_2 (l1.length : Int)).bind fun bt145 => (if 0 ≤ bt145.1 then (if bt145.1 < (l1.length : Int) then (some (rd l1 bt145.1, bt145.2.1, bt145.2.2)) else (none)) else (none))
set_option maxHeartbeats 8000000 in
set_option maxRecDepth 100000 in
theorem spec_l1PickInt.calls (g : Nat) (s0_0 : List Int) (s0_1 : Int) (s0_2 : Int) (A1 : Option Addr) (c1 : Nat) (l1 : List Int) (r1 : Int) (r2 : Int) (r3 : Int) (w0 w : World) (hI : IsS82 w0 w g s0_0 s0_1 s0_2) (hB : Below w0.heap.size w0 w) (hr1 : Kd.C (Kd.int .i64) w A1 l1.length l1) (hc1 : l1.length ≤ c1) (hf1 : ∀ ad, A1 = some ad → 0 < l1.length → ad.block ≠ g) (h : spec_l1PickInt.f s0_0 s0_1 s0_2 l1 = some (r1, r2, r3)) :
    Calls Try.prog 95 #[.pointer (some ⟨g, 0, none⟩), .slice A1 l1.length c1] w fun e w' => e = .returned (.int .i64 r1) ∧ IsS82 w0 w' g s0_0 r2 r3 ∧ Below w0.heap.size w0 w' ∧ KeepBut w w' g none := by
  have HR1 := Aside0.mk hr1
  have HC1 := Aside0.mk hc1
  clear hr1 hc1
  have HI0 := Aside0.mk hI
  have HK := Aside0.mk (KeepBut.refl w g none)
  have HL := Aside0.mk hB.size
  clear hI
  have HW0 := Aside0.mk hB.size
  have HB := Aside0.mk hB
  clear hB
  have H : ((spec_l1Below.f s0_0 s0_1 s0_2 (l1.length : Int)).bind fun bt145 => (if 0 ≤ bt145.1 then (if bt145.1 < (l1.length : Int) then (some (rd l1 bt145.1, bt145.2.1, bt145.2.2)) else (none)) else (none))) = some (r1, r2, r3) := h
  clear h
  replace H := Option.bind_eq_some_iff.mp H
  obtain ⟨⟨t145, t146, t147⟩, A30, H⟩ := H
  replace H : (if 0 ≤ t145 then (if t145 < (l1.length : Int) then (some (rd l1 t145, t146, t147)) else (none)) else (none)) = some (r1, r2, r3) := H
  have A3 := Aside0.mk A30
  clear A30
  by_cases c4 : 0 ≤ t145
  · rw [if_pos c4] at H
    have c4b0 : decide (0 ≤ t145) = true := decide_eq_true c4
    clear c4
    by_cases c5 : t145 < (l1.length : Int)
    · rw [if_pos c5] at H
      have c5b0 : decide (t145 < (l1.length : Int)) = true := decide_eq_true c5
      clear c5
      simp only [Option.some.injEq, Prod.mk.injEq] at H
      obtain ⟨rfl, rfl, rfl⟩ := H
      go_enter Try.func95, Try.ntmps95
      go_wp2_with (first | ((with_reducible refine gate_callee (f := 87) rfl ?_); refine goesL_ (some 9) rfl rfl Try.func87 (by kernel_rfl) rfl #[.pointer (some ⟨g, 0, none⟩), .int .i64 (l1.length : Int)] rfl (by (try simp only [List.map_toArray, List.map_cons, List.map_nil]); first | done | rfl | (simp only [List.length_drop, List.length_take]; rfl)) ?_; (with_reducible refine (spec_l1Below.calls g s0_0 s0_1 s0_2 (l1.length : Int) t145 t146 t147 w0 _ ?side1 ?side2 A3.out).mono ?_); (case side1 => repeat (first | (with_reducible first | exact HI0.out | apply IsS82.alloc | apply IsS82.drewN | apply IsS82.drew | apply IsS82.set_1 | apply IsS82.set_2) | exact HI0.out)); (case side2 => repeat (first | (with_reducible first | exact HB.out | apply below_alloc | apply pw_below_drewN | apply below_drew1 | refine below_set ?_ (IsS82.ge HI0.out)) | exact HB.out)); rintro e w6 ⟨rfl, hi, hb, hk⟩; refine ⟨_, rfl, ?_⟩; have n0_ := Aside0.mk (KeepBut.trans (by repeat (first | (with_reducible first | exact HK.out | apply KeepBut.set_ | apply keep_drewN | apply keep_drew | apply keep_alloc) | exact HK.out)) hk (.inl rfl)); have n1_ := Aside0.mk (hb); have n2_ := Aside0.mk (hi); clear HK; clear HB; clear HI0; have HK := n0_; have HB := n1_; have HI0 := n2_; clear n0_ n1_ n2_; (try clear hb); (try clear hb2); (try clear hk); (try clear hi); have p148 : 0 ≤ (t145 : Int) := of_decide_eq_true (by first | (with_reducible assumption) | assumption); have q148 : t145 < (l1.length : Int) := of_decide_eq_true (by first | (with_reducible assumption) | assumption); obtain ⟨ad148, e148, hx148_0⟩ := Kd.at_int HR1.out t145 p148 q148; cases e148; replace hx148_0 := keep_cell HK.out hx148_0 (by first | (rw [add_block]; exact hf1 _ rfl (by omega)) | exact hf1 _ rfl (by omega) | exact hf1 ad148 rfl (by omega)); replace p148 := eq_true p148; replace q148 := eq_true q148))
      go_ret
      exact ⟨by first | rfl | (simp [errW_none, errW_some] <;> rfl) | (simp [*, errW_none, errW_some] <;> rfl), by repeat (first | (with_reducible first | exact HI0.out | apply IsS82.alloc | apply IsS82.drewN | apply IsS82.drew | apply IsS82.set_1 | apply IsS82.set_2) | exact HI0.out), by repeat (first | (with_reducible first | exact HB.out | apply below_alloc | apply pw_below_drewN | apply below_drew1 | refine below_set ?_ (IsS82.ge HI0.out)) | exact HB.out), by repeat (first | (with_reducible first | exact HK.out | apply KeepBut.set_ | apply keep_drewN | apply keep_drew | apply keep_alloc) | exact HK.out)⟩
    · rw [if_neg c5] at H
      exact absurd H (by simp)
  · rw [if_neg c4] at H
    exact absurd H (by simp)

/-! ### spec_l1DrawSign: function 47 -/
def spec_l1DrawSign.f (s0_0 : List Int) (s0_1 : Int) (s0_2 : Int) : Option (Int × Int × Int) := (spec_l1Once.f s0_0 s0_1 s0_2 20).bind fun bt149 => (if bt149.1 = true then ((spec_l1PickInt.f s0_0 bt149.2.1 bt149.2.2 (([0, (-1), 105, 300, 47] : List Int))).bind fun bt155 => (some (bt155.1, bt155.2.1, bt155.2.2))) else ((spec_l1PickInt.f s0_0 bt149.2.1 bt149.2.2 (([43, 45, 42, 37, 124, 38, 94, 61, 60, 62, 126] : List Int))).bind fun bt161 => (some (bt161.1, bt161.2.1, bt161.2.2))))
set_option maxHeartbeats 8000000 in
set_option maxRecDepth 100000 in
theorem spec_l1DrawSign.calls (g : Nat) (s0_0 : List Int) (s0_1 : Int) (s0_2 : Int) (r1 : Int) (r2 : Int) (r3 : Int) (w0 w : World) (hI : IsS82 w0 w g s0_0 s0_1 s0_2) (hB : Below w0.heap.size w0 w) (h : spec_l1DrawSign.f s0_0 s0_1 s0_2 = some (r1, r2, r3)) :
    Calls Try.prog 47 #[.pointer (some ⟨g, 0, none⟩)] w fun e w' => e = .returned (.int .i64 r1) ∧ IsS82 w0 w' g s0_0 r2 r3 ∧ Below w0.heap.size w0 w' ∧ KeepBut w w' g none := by
  have HI0 := Aside0.mk hI
  have HK := Aside0.mk (KeepBut.refl w g none)
  have HL := Aside0.mk hB.size
  clear hI
  have HW0 := Aside0.mk hB.size
  have HB := Aside0.mk hB
  clear hB
  have H : ((spec_l1Once.f s0_0 s0_1 s0_2 20).bind fun bt149 => (if bt149.1 = true then ((spec_l1PickInt.f s0_0 bt149.2.1 bt149.2.2 (([0, (-1), 105, 300, 47] : List Int))).bind fun bt155 => (some (bt155.1, bt155.2.1, bt155.2.2))) else ((spec_l1PickInt.f s0_0 bt149.2.1 bt149.2.2 (([43, 45, 42, 37, 124, 38, 94, 61, 60, 62, 126] : List Int))).bind fun bt161 => (some (bt161.1, bt161.2.1, bt161.2.2))))) = some (r1, r2, r3) := h
  clear h
  replace H := Option.bind_eq_some_iff.mp H
  obtain ⟨⟨t149, t150, t151⟩, A20, H⟩ := H
  replace H : (if t149 = true then ((spec_l1PickInt.f s0_0 t150 t151 (([0, (-1), 105, 300, 47] : List Int))).bind fun bt155 => (some (bt155.1, bt155.2.1, bt155.2.2))) else ((spec_l1PickInt.f s0_0 t150 t151 (([43, 45, 42, 37, 124, 38, 94, 61, 60, 62, 126] : List Int))).bind fun bt161 => (some (bt161.1, bt161.2.1, bt161.2.2)))) = some (r1, r2, r3) := H
  have A2 := Aside0.mk A20
  clear A20
  by_cases c3 : t149 = true
  · subst c3
    have H1 : ((spec_l1PickInt.f s0_0 t150 t151 (([0, (-1), 105, 300, 47] : List Int))).bind fun bt155 => (some (bt155.1, bt155.2.1, bt155.2.2))) = some (r1, r2, r3) := by rw [if_pos rfl] at H; exact H
    clear H
    have H := H1
    clear H1
    obtain ⟨y152, hy152⟩ : ∃ y_ : List Int, y_ = (([0, (-1), 105, 300, 47] : List Int)) := ⟨_, rfl⟩
    replace H : ((spec_l1PickInt.f s0_0 t150 t151 y152).bind fun bt155 => (some (bt155.1, bt155.2.1, bt155.2.2))) = some (r1, r2, r3) := by first | (rw [hy152]; with_reducible exact H) | (have H2_ := (Option.bind_some _ _).symm.trans H; rw [hy152]; with_reducible exact H2_) | (have H2_ := (Option.bind_some _ _).symm.trans H; with_reducible exact H2_) | with_reducible exact H | (rw [hy152]; exact H) | exact H
    have Ny152 := Aside0.mk hy152
    clear hy152
    replace H := Option.bind_eq_some_iff.mp H
    obtain ⟨⟨t155, t156, t157⟩, A40, H⟩ := H
    replace H : (some (t155, t156, t157)) = some (r1, r2, r3) := H
    have A4 := Aside0.mk A40
    clear A40
    simp only [Option.some.injEq, Prod.mk.injEq] at H
    obtain ⟨rfl, rfl, rfl⟩ := H
    go_enter Try.func47, Try.ntmps47
    go_wp2_with (first | ((with_reducible refine gate_callee (f := 86) rfl ?_); refine goesL_ (some 4) rfl rfl Try.func86 (by kernel_rfl) rfl #[.pointer (some ⟨g, 0, none⟩), .int .i64 20] rfl (by (try simp only [List.map_toArray, List.map_cons, List.map_nil]); first | done | rfl | (simp only [List.length_drop, List.length_take]; rfl)) ?_; (with_reducible refine (spec_l1Once.calls g s0_0 s0_1 s0_2 20 true t150 t151 w0 _ ?side1 ?side2 A2.out).mono ?_); (case side1 => repeat (first | (with_reducible first | exact HI0.out | apply IsS82.alloc | apply IsS82.drewN | apply IsS82.drew | apply IsS82.set_1 | apply IsS82.set_2) | exact HI0.out)); (case side2 => repeat (first | (with_reducible first | exact HB.out | apply below_alloc | apply pw_below_drewN | apply below_drew1 | refine below_set ?_ (IsS82.ge HI0.out)) | exact HB.out)); rintro e w5 ⟨rfl, hi, hb, hk⟩; refine ⟨_, rfl, ?_⟩; have n0_ := Aside0.mk (KeepBut.trans (by repeat (first | (with_reducible first | exact HK.out | apply KeepBut.set_ | apply keep_drewN | apply keep_drew | apply keep_alloc) | exact HK.out)) hk (.inl rfl)); have n1_ := Aside0.mk (hb); have n2_ := Aside0.mk (hi); clear HK; clear HB; clear HI0; have HK := n0_; have HB := n1_; have HI0 := n2_; clear n0_ n1_ n2_; (try clear hb); (try clear hb2); (try clear hk); (try clear hi)) | ((with_reducible refine gate_dst (N := 6) rfl ?_); refine Kd.R_lit (Kd.int .i64) _ 3 ?hg (N := 6) ?hd (xs := ([0, (-1), 105, 300, 47] : List Int)) (inner := [.int .i64 0, .int .i64 (-1), .int .i64 105, .int .i64 300, .int .i64 47]) (ok := fun _ => True) (okp := fun _ => True) ?hr ?hp (fun _ hk => hk) trivial (Below.refl _ _) (Nat.le_refl _) (by simp) ?_; (case hd => rfl); (case hg => rfl); (case hr => first | (go_simp; done) | (go_simp; rfl)); (case hp => exact (Reps.one (show Kd.M (Kd.int .i64) _ _ _ 0 [.int .i64 0] from rfl) (Reps.one (show Kd.M (Kd.int .i64) _ _ _ (-1) [.int .i64 (-1)] from rfl) (Reps.one (show Kd.M (Kd.int .i64) _ _ _ 105 [.int .i64 105] from rfl) (Reps.one (show Kd.M (Kd.int .i64) _ _ _ 300 [.int .i64 300] from rfl) (Reps.one (show Kd.M (Kd.int .i64) _ _ _ 47 [.int .i64 47] from rfl) (Reps.none _ _))))))); intro v153 w6 ho7 hb hg_ hnew_; clear hg_ hnew_; (first | rw [← Ny152.out] at ho7 | (simp only [Int.reduceToNat] at ho7; rw [← Ny152.out] at ho7)); have n0_ := Aside0.mk (Kd.R_lower ho7 (keep_size (w := w) (g := g) (row := none) (by repeat (first | (with_reducible first | exact HK.out | apply KeepBut.set_ | apply keep_drewN | apply keep_drew | apply keep_alloc) | exact HK.out)))); have n1_ := Aside0.mk (IsS82.below (by repeat (first | (with_reducible first | exact HI0.out | apply IsS82.alloc | apply IsS82.drewN | apply IsS82.drew | apply IsS82.set_1 | apply IsS82.set_2) | exact HI0.out)) hb); have n2_ := Aside0.mk (KeepBut.trans (by repeat (first | (with_reducible first | exact HK.out | apply KeepBut.set_ | apply keep_drewN | apply keep_drew | apply keep_alloc) | exact HK.out)) (KeepBut.of_below hb g none) (.inl rfl)); have n3_ := Aside0.mk (below_step (by repeat (first | (with_reducible first | exact HB.out | apply below_alloc | apply pw_below_drewN | apply below_drew1 | refine below_set ?_ (IsS82.ge HI0.out)) | exact HB.out)) hb); clear HI0; clear HK; clear HB; have HO154 := n0_; have HI0 := n1_; have HK := n2_; have HB := n3_; clear n0_ n1_ n2_ n3_; clear hb ho7; obtain ⟨Ao8, co8, eo8⟩ := Kd.R_slice HO154.out; subst eo8) | ((with_reducible refine gate_callee (f := 95) rfl ?_); refine goesL_ (some 7) rfl rfl Try.func95 (by kernel_rfl) rfl #[.pointer (some ⟨g, 0, none⟩), .slice Ao8 y152.length co8] rfl (by (try simp only [List.map_toArray, List.map_cons, List.map_nil]); first | done | rfl | (simp only [List.length_drop, List.length_take]; rfl)) ?_; (with_reducible refine (spec_l1PickInt.calls g s0_0 t150 t151 _ _ y152 t155 t156 t157 w0 _ ?side1 ?side2 ?side3 ?side4 ?side5 A4.out).mono ?_); (case side1 => repeat (first | (with_reducible first | exact HI0.out | apply IsS82.alloc | apply IsS82.drewN | apply IsS82.drew | apply IsS82.set_1 | apply IsS82.set_2) | exact HI0.out)); (case side2 => repeat (first | (with_reducible first | exact HB.out | apply below_alloc | apply pw_below_drewN | apply below_drew1 | refine below_set ?_ (IsS82.ge HI0.out)) | exact HB.out)); (case side3 => exact cU (Kd.R_reads' HO154.out).2.2); (case side4 => exact (Kd.R_reads' HO154.out).2.1); (case side5 => exact far_slice (IsS82.own_ne HI0.out HO154.out (by decide))); rintro e w9 ⟨rfl, hi, hb, hk⟩; refine ⟨_, rfl, ?_⟩; have n0_ := Aside0.mk (Kd.R_mono (Kd.R_keep (IsS82.apart (show IsS82 w0 _ g s0_0 t150 t151 from by repeat (first | (with_reducible first | exact HI0.out | apply IsS82.alloc | apply IsS82.drewN | apply IsS82.drew | apply IsS82.set_1 | apply IsS82.set_2) | exact HI0.out)) (RU HO154.out) (by decide)) hk (fun _ h => h.2)) (fun _ h => h.1)); have n1_ := Aside0.mk (KeepBut.trans (by repeat (first | (with_reducible first | exact HK.out | apply KeepBut.set_ | apply keep_drewN | apply keep_drew | apply keep_alloc) | exact HK.out)) hk (.inl rfl)); have n2_ := Aside0.mk (hb); have n3_ := Aside0.mk (hi); clear HO154; clear HK; clear HB; clear HI0; have HO154 := n0_; have HK := n1_; have HB := n2_; have HI0 := n3_; clear n0_ n1_ n2_ n3_; (try clear hb); (try clear hb2); (try clear hk); (try clear hi)))
    go_ret
    exact ⟨by first | rfl | (simp [errW_none, errW_some] <;> rfl) | (simp [*, errW_none, errW_some] <;> rfl), by repeat (first | (with_reducible first | exact HI0.out | apply IsS82.alloc | apply IsS82.drewN | apply IsS82.drew | apply IsS82.set_1 | apply IsS82.set_2) | exact HI0.out), by repeat (first | (with_reducible first | exact HB.out | apply below_alloc | apply pw_below_drewN | apply below_drew1 | refine below_set ?_ (IsS82.ge HI0.out)) | exact HB.out), by repeat (first | (with_reducible first | exact HK.out | apply KeepBut.set_ | apply keep_drewN | apply keep_drew | apply keep_alloc) | exact HK.out)⟩
  · replace c3 := Bool.eq_false_iff.mpr c3
    subst c3
    have H1 : ((spec_l1PickInt.f s0_0 t150 t151 (([43, 45, 42, 37, 124, 38, 94, 61, 60, 62, 126] : List Int))).bind fun bt161 => (some (bt161.1, bt161.2.1, bt161.2.2))) = some (r1, r2, r3) := by rw [if_neg (show ¬ (false = true) by decide)] at H; exact H
    clear H
    have H := H1
    clear H1
    obtain ⟨y158, hy158⟩ : ∃ y_ : List Int, y_ = (([43, 45, 42, 37, 124, 38, 94, 61, 60, 62, 126] : List Int)) := ⟨_, rfl⟩
    replace H : ((spec_l1PickInt.f s0_0 t150 t151 y158).bind fun bt161 => (some (bt161.1, bt161.2.1, bt161.2.2))) = some (r1, r2, r3) := by first | (rw [hy158]; with_reducible exact H) | (have H2_ := (Option.bind_some _ _).symm.trans H; rw [hy158]; with_reducible exact H2_) | (have H2_ := (Option.bind_some _ _).symm.trans H; with_reducible exact H2_) | with_reducible exact H | (rw [hy158]; exact H) | exact H
    have Ny158 := Aside0.mk hy158
    clear hy158
    replace H := Option.bind_eq_some_iff.mp H
    obtain ⟨⟨t161, t162, t163⟩, A100, H⟩ := H
    replace H : (some (t161, t162, t163)) = some (r1, r2, r3) := H
    have A10 := Aside0.mk A100
    clear A100
    simp only [Option.some.injEq, Prod.mk.injEq] at H
    obtain ⟨rfl, rfl, rfl⟩ := H
    go_enter Try.func47, Try.ntmps47
    go_wp2_with (first | ((with_reducible refine gate_callee (f := 86) rfl ?_); refine goesL_ (some 4) rfl rfl Try.func86 (by kernel_rfl) rfl #[.pointer (some ⟨g, 0, none⟩), .int .i64 20] rfl (by (try simp only [List.map_toArray, List.map_cons, List.map_nil]); first | done | rfl | (simp only [List.length_drop, List.length_take]; rfl)) ?_; (with_reducible refine (spec_l1Once.calls g s0_0 s0_1 s0_2 20 false t150 t151 w0 _ ?side1 ?side2 A2.out).mono ?_); (case side1 => repeat (first | (with_reducible first | exact HI0.out | apply IsS82.alloc | apply IsS82.drewN | apply IsS82.drew | apply IsS82.set_1 | apply IsS82.set_2) | exact HI0.out)); (case side2 => repeat (first | (with_reducible first | exact HB.out | apply below_alloc | apply pw_below_drewN | apply below_drew1 | refine below_set ?_ (IsS82.ge HI0.out)) | exact HB.out)); rintro e w11 ⟨rfl, hi, hb, hk⟩; refine ⟨_, rfl, ?_⟩; have n0_ := Aside0.mk (KeepBut.trans (by repeat (first | (with_reducible first | exact HK.out | apply KeepBut.set_ | apply keep_drewN | apply keep_drew | apply keep_alloc) | exact HK.out)) hk (.inl rfl)); have n1_ := Aside0.mk (hb); have n2_ := Aside0.mk (hi); clear HK; clear HB; clear HI0; have HK := n0_; have HB := n1_; have HI0 := n2_; clear n0_ n1_ n2_; (try clear hb); (try clear hb2); (try clear hk); (try clear hi)) | ((with_reducible refine gate_dst (N := 9) rfl ?_); refine Kd.R_lit (Kd.int .i64) _ 3 ?hg (N := 9) ?hd (xs := ([43, 45, 42, 37, 124, 38, 94, 61, 60, 62, 126] : List Int)) (inner := [.int .i64 43, .int .i64 45, .int .i64 42, .int .i64 37, .int .i64 124, .int .i64 38, .int .i64 94, .int .i64 61, .int .i64 60, .int .i64 62, .int .i64 126]) (ok := fun _ => True) (okp := fun _ => True) ?hr ?hp (fun _ hk => hk) trivial (Below.refl _ _) (Nat.le_refl _) (by simp) ?_; (case hd => rfl); (case hg => rfl); (case hr => first | (go_simp; done) | (go_simp; rfl)); (case hp => exact (Reps.one (show Kd.M (Kd.int .i64) _ _ _ 43 [.int .i64 43] from rfl) (Reps.one (show Kd.M (Kd.int .i64) _ _ _ 45 [.int .i64 45] from rfl) (Reps.one (show Kd.M (Kd.int .i64) _ _ _ 42 [.int .i64 42] from rfl) (Reps.one (show Kd.M (Kd.int .i64) _ _ _ 37 [.int .i64 37] from rfl) (Reps.one (show Kd.M (Kd.int .i64) _ _ _ 124 [.int .i64 124] from rfl) (Reps.one (show Kd.M (Kd.int .i64) _ _ _ 38 [.int .i64 38] from rfl) (Reps.one (show Kd.M (Kd.int .i64) _ _ _ 94 [.int .i64 94] from rfl) (Reps.one (show Kd.M (Kd.int .i64) _ _ _ 61 [.int .i64 61] from rfl) (Reps.one (show Kd.M (Kd.int .i64) _ _ _ 60 [.int .i64 60] from rfl) (Reps.one (show Kd.M (Kd.int .i64) _ _ _ 62 [.int .i64 62] from rfl) (Reps.one (show Kd.M (Kd.int .i64) _ _ _ 126 [.int .i64 126] from rfl) (Reps.none _ _))))))))))))); intro v159 w12 ho13 hb hg_ hnew_; clear hg_ hnew_; (first | rw [← Ny158.out] at ho13 | (simp only [Int.reduceToNat] at ho13; rw [← Ny158.out] at ho13)); have n0_ := Aside0.mk (Kd.R_lower ho13 (keep_size (w := w) (g := g) (row := none) (by repeat (first | (with_reducible first | exact HK.out | apply KeepBut.set_ | apply keep_drewN | apply keep_drew | apply keep_alloc) | exact HK.out)))); have n1_ := Aside0.mk (IsS82.below (by repeat (first | (with_reducible first | exact HI0.out | apply IsS82.alloc | apply IsS82.drewN | apply IsS82.drew | apply IsS82.set_1 | apply IsS82.set_2) | exact HI0.out)) hb); have n2_ := Aside0.mk (KeepBut.trans (by repeat (first | (with_reducible first | exact HK.out | apply KeepBut.set_ | apply keep_drewN | apply keep_drew | apply keep_alloc) | exact HK.out)) (KeepBut.of_below hb g none) (.inl rfl)); have n3_ := Aside0.mk (below_step (by repeat (first | (with_reducible first | exact HB.out | apply below_alloc | apply pw_below_drewN | apply below_drew1 | refine below_set ?_ (IsS82.ge HI0.out)) | exact HB.out)) hb); clear HI0; clear HK; clear HB; have HO160 := n0_; have HI0 := n1_; have HK := n2_; have HB := n3_; clear n0_ n1_ n2_ n3_; clear hb ho13; obtain ⟨Ao14, co14, eo14⟩ := Kd.R_slice HO160.out; subst eo14) | ((with_reducible refine gate_callee (f := 95) rfl ?_); refine goesL_ (some 10) rfl rfl Try.func95 (by kernel_rfl) rfl #[.pointer (some ⟨g, 0, none⟩), .slice Ao14 y158.length co14] rfl (by (try simp only [List.map_toArray, List.map_cons, List.map_nil]); first | done | rfl | (simp only [List.length_drop, List.length_take]; rfl)) ?_; (with_reducible refine (spec_l1PickInt.calls g s0_0 t150 t151 _ _ y158 t161 t162 t163 w0 _ ?side1 ?side2 ?side3 ?side4 ?side5 A10.out).mono ?_); (case side1 => repeat (first | (with_reducible first | exact HI0.out | apply IsS82.alloc | apply IsS82.drewN | apply IsS82.drew | apply IsS82.set_1 | apply IsS82.set_2) | exact HI0.out)); (case side2 => repeat (first | (with_reducible first | exact HB.out | apply below_alloc | apply pw_below_drewN | apply below_drew1 | refine below_set ?_ (IsS82.ge HI0.out)) | exact HB.out)); (case side3 => exact cU (Kd.R_reads' HO160.out).2.2); (case side4 => exact (Kd.R_reads' HO160.out).2.1); (case side5 => exact far_slice (IsS82.own_ne HI0.out HO160.out (by decide))); rintro e w15 ⟨rfl, hi, hb, hk⟩; refine ⟨_, rfl, ?_⟩; have n0_ := Aside0.mk (Kd.R_mono (Kd.R_keep (IsS82.apart (show IsS82 w0 _ g s0_0 t150 t151 from by repeat (first | (with_reducible first | exact HI0.out | apply IsS82.alloc | apply IsS82.drewN | apply IsS82.drew | apply IsS82.set_1 | apply IsS82.set_2) | exact HI0.out)) (RU HO160.out) (by decide)) hk (fun _ h => h.2)) (fun _ h => h.1)); have n1_ := Aside0.mk (KeepBut.trans (by repeat (first | (with_reducible first | exact HK.out | apply KeepBut.set_ | apply keep_drewN | apply keep_drew | apply keep_alloc) | exact HK.out)) hk (.inl rfl)); have n2_ := Aside0.mk (hb); have n3_ := Aside0.mk (hi); clear HO160; clear HK; clear HB; clear HI0; have HO160 := n0_; have HK := n1_; have HB := n2_; have HI0 := n3_; clear n0_ n1_ n2_ n3_; (try clear hb); (try clear hb2); (try clear hk); (try clear hi)))
    go_ret
    exact ⟨by first | rfl | (simp [errW_none, errW_some] <;> rfl) | (simp [*, errW_none, errW_some] <;> rfl), by repeat (first | (with_reducible first | exact HI0.out | apply IsS82.alloc | apply IsS82.drewN | apply IsS82.drew | apply IsS82.set_1 | apply IsS82.set_2) | exact HI0.out), by repeat (first | (with_reducible first | exact HB.out | apply below_alloc | apply pw_below_drewN | apply below_drew1 | refine below_set ?_ (IsS82.ge HI0.out)) | exact HB.out), by repeat (first | (with_reducible first | exact HK.out | apply KeepBut.set_ | apply keep_drewN | apply keep_drew | apply keep_alloc) | exact HK.out)⟩

end Go.Proofs.Ytlpgopiajkajjaa.PFnEachOne
