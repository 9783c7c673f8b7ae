/- The walk of what a law reaches, for the law's row: written by a program of this session; it has no condition of its own. -/
import Derived.Test.YtjkbndfaemjjiaaPFnExactEachTwox0
import Derived.Test.YtjkbndfaemjjiaaPFnExactEachTwox5
import Derived.Test.YtjkbndfaemjjiaaPFnExactEachTwox6
namespace Go.Proofs.Ytjkbndfaemjjiaa.PFnExactEachTwo
open Go.RowKit Go.Proofs.YtjkbndfaemjjiaaW.PrintWords Go.Proofs.YtjkbndfaemjjiaaW.PrintLast Go.Proofs.YtjkbndfaemjjiaaW.PrintMore
attribute [local go_sem] max2_int min2_int max_two min_two max_three min_three max_four min_four   -- for this text's walks alone
set_option linter.unusedVariables false
set_option linter.unusedSimpArgs false

/-! ### impl_Two: function 30 -/
def impl_Two.j0 : Nat → Int → Int → Int → Bool → Option (Int × Int)
  | 0, _, _, _, _ => none
  | k + 1, x0, x1, x2, x22 => if x22 = true then (some (0, 1)) else (if x0 = 43 then ((impl_NumOk.f (wrap64 (x1 + x2))).bind fun t236 => (if t236 = true then (some (wrap64 (x1 + x2), 0)) else (some (0, 6)))) else (if x0 = 45 then ((impl_NumOk.f (wrap64 (x1 - x2))).bind fun t237 => (if t237 = true then (some (wrap64 (x1 - x2), 0)) else (some (0, 6)))) else (if x0 = 42 then ((impl_product.f x1 x2).bind fun bt238 => (if bt238.2 = true then ((impl_NumOk.f bt238.1).bind fun t240 => (if t240 = true then (some (bt238.1, 0)) else (some (0, 6)))) else (some (0, 6)))) else (if x0 = 37 then (if x2 = 0 then (some (0, 2)) else ((impl_floor.f x1 x2).bind fun t241 => ((impl_NumOk.f t241).bind fun t242 => (if t242 = true then (some (t241, 0)) else (some (0, 6)))))) else (if x0 = 124 then (if x1 = 0 then ((impl_NumOk.f x2).bind fun t243 => (if t243 = true then (some (x2, 0)) else (some (0, 6)))) else ((impl_floor.f x2 x1).bind fun t244 => ((impl_NumOk.f (wrap64 (x2 - (wrap64 (x1 * t244))))).bind fun t245 => (if t245 = true then (some (wrap64 (x2 - (wrap64 (x1 * t244))), 0)) else (some (0, 6)))))) else (if x0 = 38 then ((impl_NumOk.f (mn x1 x2)).bind fun t246 => (if t246 = true then (some (mn x1 x2, 0)) else (some (0, 6)))) else (if x0 = 94 then ((impl_NumOk.f (mx x1 x2)).bind fun t247 => (if t247 = true then (some (mx x1 x2, 0)) else (some (0, 6)))) else (if x0 = 61 then ((impl_truth.f (x1 == x2)).bind fun t248 => ((impl_NumOk.f t248).bind fun t249 => (if t249 = true then (some (t248, 0)) else (some (0, 6))))) else (if x0 = 60 then ((impl_truth.f (decide (x1 < x2))).bind fun t250 => ((impl_NumOk.f t250).bind fun t251 => (if t251 = true then (some (t250, 0)) else (some (0, 6))))) else ((impl_truth.f (decide (x1 > x2))).bind fun t252 => ((impl_NumOk.f t252).bind fun t253 => (if t253 = true then (some (t252, 0)) else (some (0, 6))))))))))))))
def impl_Two.f (k : Nat) (a0 : Int) (a1 : Int) (a2 : Int) : Option (Int × Int) := (impl_twoSign.f k a0).bind fun t233 => (if t233 = true then ((impl_NumOk.f a1).bind fun t234 => (if t234 = true then ((impl_NumOk.f a2).bind fun t235 => (impl_Two.j0 k a0 a1 a2 (!t235))) else (impl_Two.j0 k a0 a1 a2 true))) else (impl_Two.j0 k a0 a1 a2 true))
theorem impl_Two.mono_l : ∀ k, (∀ y0 y1 y2 y3, LeO (impl_Two.j0 k y0 y1 y2 y3) (impl_Two.j0 (k + 1) y0 y1 y2 y3))
  | 0 => fun _ _ _ _ r h => by simp [impl_Two.j0] at h
  | k + 1 => by
    have ih0 := impl_Two.mono_l k
    · intro y0 y1 y2 y3
      unfold impl_Two.j0
      repeat' first
      | (with_reducible exact ih0 _ _ _ _)
      | (with_reducible exact impl_twoSign.mono _ _)
      | (with_reducible exact LeO.refl _)
      | (with_reducible exact LeO.none _)
      | (with_reducible refine LeO.ite ?_ ?_)
      | (with_reducible refine LeO.bind ?_ (fun _ => ?_))
      | exact ih0 _ _ _ _
      | exact impl_twoSign.mono _ _
      | exact LeO.none _
      | refine LeO.ite ?_ ?_
      | refine LeO.bind ?_ (fun _ => ?_)
theorem impl_Two.mono : ∀ a0 a1 a2 k, LeO (impl_Two.f k a0 a1 a2) (impl_Two.f (k + 1) a0 a1 a2) := by
  intro a0 a1 a2 k
  have ih0 := impl_Two.mono_l k
  unfold impl_Two.f
  repeat' first
      | (with_reducible exact ih0 _ _ _ _)
      | (with_reducible exact impl_twoSign.mono _ _)
      | (with_reducible exact LeO.refl _)
      | (with_reducible exact LeO.none _)
      | (with_reducible refine LeO.ite ?_ ?_)
      | (with_reducible refine LeO.bind ?_ (fun _ => ?_))
      | exact ih0 _ _ _ _
      | exact impl_twoSign.mono _ _
      | exact LeO.none _
      | refine LeO.ite ?_ ?_
      | refine LeO.bind ?_ (fun _ => ?_)
set_option maxHeartbeats 8000000 in
set_option maxRecDepth 100000 in
theorem impl_Two.calls (k : Nat) (a0 : Int) (a1 : Int) (a2 : Int) (r1 : Int) (r2 : Int) (w : World) (h : impl_Two.f k a0 a1 a2 = some (r1, r2)) :
    Calls Try.prog 30 #[.int .i64 a0, .int .i64 a1, .int .i64 a2] w fun e w' => e = .returned (.tuple #[.int .i64 r1, .int .i64 r2]) ∧ Below w.heap.size w w' := by
  have HB := Aside0.mk (Below.refl w.heap.size w)
  have H : ((impl_twoSign.f k a0).bind fun t233 => (if t233 = true then ((impl_NumOk.f a1).bind fun t234 => (if t234 = true then ((impl_NumOk.f a2).bind fun t235 => (impl_Two.j0 k a0 a1 a2 (!t235))) else (impl_Two.j0 k a0 a1 a2 true))) else (impl_Two.j0 k a0 a1 a2 true))) = some (r1, r2) := h
  clear h
  have HC4 := Aside0.mk H
  clear H
  go_enter Try.func30, Try.ntmps30
  go_upto_region 1 with (fail)
  go_cut [22] (fun v22 wc => ∃ (kq : Nat) (x22_3 : Bool), v22 = .bool x22_3 ∧ Aside0 (impl_Two.j0 kq a0 a1 a2 x22_3 = some (r1, r2)) ∧ Aside0 (kq ≤ k) ∧ Aside0 (Below w.heap.size w wc))
  case first =>
    have H := HC4.out
    clear HC4
    replace H := Option.bind_eq_some_iff.mp H
    obtain ⟨t233, A50, H⟩ := H
    replace H : (if t233 = true then ((impl_NumOk.f a1).bind fun t234 => (if t234 = true then ((impl_NumOk.f a2).bind fun t235 => (impl_Two.j0 k a0 a1 a2 (!t235))) else (impl_Two.j0 k a0 a1 a2 true))) else (impl_Two.j0 k a0 a1 a2 true)) = some (r1, r2) := H
    have A5 := Aside0.mk A50
    clear A50
    by_cases c6 : t233 = true
    · subst c6
      have H1 : ((impl_NumOk.f a1).bind fun t234 => (if t234 = true then ((impl_NumOk.f a2).bind fun t235 => (impl_Two.j0 k a0 a1 a2 (!t235))) else (impl_Two.j0 k a0 a1 a2 true))) = some (r1, r2) := by rw [if_pos rfl] at H; exact H
      clear H
      have H := H1
      clear H1
      replace H := Option.bind_eq_some_iff.mp H
      obtain ⟨t234, A70, H⟩ := H
      replace H : (if t234 = true then ((impl_NumOk.f a2).bind fun t235 => (impl_Two.j0 k a0 a1 a2 (!t235))) else (impl_Two.j0 k a0 a1 a2 true)) = some (r1, r2) := H
      have A7 := Aside0.mk A70
      clear A70
      by_cases c8 : t234 = true
      · subst c8
        have H1 : ((impl_NumOk.f a2).bind fun t235 => (impl_Two.j0 k a0 a1 a2 (!t235))) = some (r1, r2) := by rw [if_pos rfl] at H; exact H
        clear H
        have H := H1
        clear H1
        replace H := Option.bind_eq_some_iff.mp H
        obtain ⟨t235, A90, H⟩ := H
        replace H : (impl_Two.j0 k a0 a1 a2 (!t235)) = some (r1, r2) := H
        have A9 := Aside0.mk A90
        clear A90
        have H' := Aside0.mk H
        clear H
        go_wp2_with (first | ((with_reducible refine gate_callee (f := 28) rfl ?_); refine goesL_ (some 11) rfl rfl Try.func28 (by kernel_rfl) rfl #[.int .i64 a0] rfl (by (try simp only [List.map_toArray, List.map_cons, List.map_nil]); first | done | rfl | (simp only [List.length_drop, List.length_take]; rfl)) ?_; (with_reducible refine (impl_twoSign.calls k a0 true _ A5.out).mono ?_); rintro e w' ⟨rfl, ⟨nd, rfl⟩⟩; refine ⟨_, rfl, ?_⟩) | (go_at_call 54; (repeat rw [i64_w]); (with_reducible refine (impl_NumOk.calls a1 true _ A7.out).mono ?_); rintro e w' ⟨rfl, ⟨nd, rfl⟩⟩) | (go_at_call 54; (repeat rw [i64_w]); (with_reducible refine (impl_NumOk.calls a2 t235 _ A9.out).mono ?_); rintro e w' ⟨rfl, ⟨nd, rfl⟩⟩))
        go_meet
        case rel => exact ⟨_, (!t235), (by first | rfl | (simp; done) | (simp [*]; done)), H', ⟨by first | omega | exact Nat.le_refl _⟩, ⟨by repeat (first | (with_reducible first | exact HB.out | apply below_alloc | apply pw_below_drewN | apply below_drew1) | exact HB.out)⟩⟩
      · replace c8 := Bool.eq_false_iff.mpr c8
        subst c8
        have H1 : (impl_Two.j0 k a0 a1 a2 true) = some (r1, r2) := by rw [if_neg (show ¬ (false = true) by decide)] at H; exact H
        clear H
        have H := H1
        clear H1
        have H' := Aside0.mk H
        clear H
        go_wp2_with (first | ((with_reducible refine gate_callee (f := 28) rfl ?_); refine goesL_ (some 11) rfl rfl Try.func28 (by kernel_rfl) rfl #[.int .i64 a0] rfl (by (try simp only [List.map_toArray, List.map_cons, List.map_nil]); first | done | rfl | (simp only [List.length_drop, List.length_take]; rfl)) ?_; (with_reducible refine (impl_twoSign.calls k a0 true _ A5.out).mono ?_); rintro e w' ⟨rfl, ⟨nd, rfl⟩⟩; refine ⟨_, rfl, ?_⟩) | (go_at_call 54; (repeat rw [i64_w]); (with_reducible refine (impl_NumOk.calls a1 false _ A7.out).mono ?_); rintro e w' ⟨rfl, ⟨nd, rfl⟩⟩))
        go_meet
        case rel => exact ⟨_, (true), (by first | rfl | (simp; done) | (simp [*]; done)), H', ⟨by first | omega | exact Nat.le_refl _⟩, ⟨by repeat (first | (with_reducible first | exact HB.out | apply below_alloc | apply pw_below_drewN | apply below_drew1) | exact HB.out)⟩⟩
    · replace c6 := Bool.eq_false_iff.mpr c6
      subst c6
      have H1 : (impl_Two.j0 k a0 a1 a2 true) = some (r1, r2) := by rw [if_neg (show ¬ (false = true) by decide)] at H; exact H
      clear H
      have H := H1
      clear H1
      have H' := Aside0.mk H
      clear H
      go_wp2_with (first | ((with_reducible refine gate_callee (f := 28) rfl ?_); refine goesL_ (some 11) rfl rfl Try.func28 (by kernel_rfl) rfl #[.int .i64 a0] rfl (by (try simp only [List.map_toArray, List.map_cons, List.map_nil]); first | done | rfl | (simp only [List.length_drop, List.length_take]; rfl)) ?_; (with_reducible refine (impl_twoSign.calls k a0 false _ A5.out).mono ?_); rintro e w' ⟨rfl, ⟨nd, rfl⟩⟩; refine ⟨_, rfl, ?_⟩))
      go_meet
      case rel => exact ⟨_, (true), (by first | rfl | (simp; done) | (simp [*]; done)), H', ⟨by first | omega | exact Nat.le_refl _⟩, ⟨by repeat (first | (with_reducible first | exact HB.out | apply below_alloc | apply pw_below_drewN | apply below_drew1) | exact HB.out)⟩⟩
  case rest =>
    clear HC4
    try clear c2
    try clear p2
    try clear c3
    try clear c6
    try clear c8
    obtain ⟨kq, x22_3, rfl, HA, HJ3, HB⟩ := hcut
    cases kq with
    | zero => exact absurd HA.out (by simp [impl_Two.j0])
    | succ kj3 =>
      have H := HA.out
      clear HA
      simp only [impl_Two.j0] at H
      by_cases c10 : x22_3 = true
      · subst c10
        have H1 : (some (0, 1)) = some (r1, r2) := by rw [if_pos rfl] at H; exact H
        clear H
        have H := H1
        clear H1
        simp only [Option.some.injEq, Prod.mk.injEq] at H
        obtain ⟨rfl, rfl⟩ := H
        go_wp2
        go_ret2
        exact ⟨by first | rfl | (simp [errW_none, errW_some] <;> rfl) | (simp [*, errW_none, errW_some] <;> rfl), by repeat (first | (with_reducible first | exact HB.out | apply below_alloc | apply pw_below_drewN | apply below_drew1) | exact HB.out)⟩
      · replace c10 := Bool.eq_false_iff.mpr c10
        subst c10
        have H1 : (if a0 = 43 then ((impl_NumOk.f (wrap64 (a1 + a2))).bind fun t236 => (if t236 = true then (some (wrap64 (a1 + a2), 0)) else (some (0, 6)))) else (if a0 = 45 then ((impl_NumOk.f (wrap64 (a1 - a2))).bind fun t237 => (if t237 = true then (some (wrap64 (a1 - a2), 0)) else (some (0, 6)))) else (if a0 = 42 then ((impl_product.f a1 a2).bind fun bt238 => (if bt238.2 = true then ((impl_NumOk.f bt238.1).bind fun t240 => (if t240 = true then (some (bt238.1, 0)) else (some (0, 6)))) else (some (0, 6)))) else (if a0 = 37 then (if a2 = 0 then (some (0, 2)) else ((impl_floor.f a1 a2).bind fun t241 => ((impl_NumOk.f t241).bind fun t242 => (if t242 = true then (some (t241, 0)) else (some (0, 6)))))) else (if a0 = 124 then (if a1 = 0 then ((impl_NumOk.f a2).bind fun t243 => (if t243 = true then (some (a2, 0)) else (some (0, 6)))) else ((impl_floor.f a2 a1).bind fun t244 => ((impl_NumOk.f (wrap64 (a2 - (wrap64 (a1 * t244))))).bind fun t245 => (if t245 = true then (some (wrap64 (a2 - (wrap64 (a1 * t244))), 0)) else (some (0, 6)))))) else (if a0 = 38 then ((impl_NumOk.f (mn a1 a2)).bind fun t246 => (if t246 = true then (some (mn a1 a2, 0)) else (some (0, 6)))) else (if a0 = 94 then ((impl_NumOk.f (mx a1 a2)).bind fun t247 => (if t247 = true then (some (mx a1 a2, 0)) else (some (0, 6)))) else (if a0 = 61 then ((impl_truth.f (a1 == a2)).bind fun t248 => ((impl_NumOk.f t248).bind fun t249 => (if t249 = true then (some (t248, 0)) else (some (0, 6))))) else (if a0 = 60 then ((impl_truth.f (decide (a1 < a2))).bind fun t250 => ((impl_NumOk.f t250).bind fun t251 => (if t251 = true then (some (t250, 0)) else (some (0, 6))))) else ((impl_truth.f (decide (a1 > a2))).bind fun t252 => ((impl_NumOk.f t252).bind fun t253 => (if t253 = true then (some (t252, 0)) else (some (0, 6)))))))))))))) = some (r1, r2) := by rw [if_neg (show ¬ (false = true) by decide)] at H; exact H
        clear H
        have H := H1
        clear H1
        by_cases c11 : a0 = 43
        · rw [if_pos c11] at H
          have c11b0 : (a0 == 43) = true := beq_iff_eq.mpr c11
          have c11b1 : (a0 != 43) = false := bne_eq_false_iff_eq.mpr c11
          clear c11
          replace H := Option.bind_eq_some_iff.mp H
          obtain ⟨t236, A120, H⟩ := H
          replace H : (if t236 = true then (some (wrap64 (a1 + a2), 0)) else (some (0, 6))) = some (r1, r2) := H
          have A12 := Aside0.mk A120
          clear A120
          by_cases c13 : t236 = true
          · subst c13
            have H1 : (some (wrap64 (a1 + a2), 0)) = some (r1, r2) := by rw [if_pos rfl] at H; exact H
            clear H
            have H := H1
            clear H1
            simp only [Option.some.injEq, Prod.mk.injEq] at H
            obtain ⟨rfl, rfl⟩ := H
            go_wp2_with (first | (go_at_call 54; (repeat rw [i64_w]); (with_reducible refine (impl_NumOk.calls (wrap64 (a1 + a2)) true _ A12.out).mono ?_); rintro e w' ⟨rfl, ⟨nd, rfl⟩⟩))
            go_ret2
            exact ⟨by first | rfl | (simp [errW_none, errW_some] <;> rfl) | (simp [*, errW_none, errW_some] <;> rfl), by repeat (first | (with_reducible first | exact HB.out | apply below_alloc | apply pw_below_drewN | apply below_drew1) | exact HB.out)⟩
          · replace c13 := Bool.eq_false_iff.mpr c13
            subst c13
            have H1 : (some (0, 6)) = some (r1, r2) := by rw [if_neg (show ¬ (false = true) by decide)] at H; exact H
            clear H
            have H := H1
            clear H1
            simp only [Option.some.injEq, Prod.mk.injEq] at H
            obtain ⟨rfl, rfl⟩ := H
            go_wp2_with (first | (go_at_call 54; (repeat rw [i64_w]); (with_reducible refine (impl_NumOk.calls (wrap64 (a1 + a2)) false _ A12.out).mono ?_); rintro e w' ⟨rfl, ⟨nd, rfl⟩⟩))
            go_ret2
            exact ⟨by first | rfl | (simp [errW_none, errW_some] <;> rfl) | (simp [*, errW_none, errW_some] <;> rfl), by repeat (first | (with_reducible first | exact HB.out | apply below_alloc | apply pw_below_drewN | apply below_drew1) | exact HB.out)⟩
        · rw [if_neg c11] at H
          have c11b0 : (a0 == 43) = false := beq_eq_false_iff_ne.mpr c11
          have c11b1 : (a0 != 43) = true := bne_iff_ne.mpr c11
          by_cases c14 : a0 = 45
          · rw [if_pos c14] at H
            have c14b0 : (a0 == 45) = true := beq_iff_eq.mpr c14
            have c14b1 : (a0 != 45) = false := bne_eq_false_iff_eq.mpr c14
            clear c14
            replace H := Option.bind_eq_some_iff.mp H
            obtain ⟨t237, A150, H⟩ := H
            replace H : (if t237 = true then (some (wrap64 (a1 - a2), 0)) else (some (0, 6))) = some (r1, r2) := H
            have A15 := Aside0.mk A150
            clear A150
            by_cases c16 : t237 = true
            · subst c16
              have H1 : (some (wrap64 (a1 - a2), 0)) = some (r1, r2) := by rw [if_pos rfl] at H; exact H
              clear H
              have H := H1
              clear H1
              simp only [Option.some.injEq, Prod.mk.injEq] at H
              obtain ⟨rfl, rfl⟩ := H
              go_wp2_with (first | (go_at_call 54; (repeat rw [i64_w]); (with_reducible refine (impl_NumOk.calls (wrap64 (a1 - a2)) true _ A15.out).mono ?_); rintro e w' ⟨rfl, ⟨nd, rfl⟩⟩))
              go_ret2
              exact ⟨by first | rfl | (simp [errW_none, errW_some] <;> rfl) | (simp [*, errW_none, errW_some] <;> rfl), by repeat (first | (with_reducible first | exact HB.out | apply below_alloc | apply pw_below_drewN | apply below_drew1) | exact HB.out)⟩
            · replace c16 := Bool.eq_false_iff.mpr c16
              subst c16
              have H1 : (some (0, 6)) = some (r1, r2) := by rw [if_neg (show ¬ (false = true) by decide)] at H; exact H
              clear H
              have H := H1
              clear H1
              simp only [Option.some.injEq, Prod.mk.injEq] at H
              obtain ⟨rfl, rfl⟩ := H
              go_wp2_with (first | (go_at_call 54; (repeat rw [i64_w]); (with_reducible refine (impl_NumOk.calls (wrap64 (a1 - a2)) false _ A15.out).mono ?_); rintro e w' ⟨rfl, ⟨nd, rfl⟩⟩))
              go_ret2
              exact ⟨by first | rfl | (simp [errW_none, errW_some] <;> rfl) | (simp [*, errW_none, errW_some] <;> rfl), by repeat (first | (with_reducible first | exact HB.out | apply below_alloc | apply pw_below_drewN | apply below_drew1) | exact HB.out)⟩
          · rw [if_neg c14] at H
            have c14b0 : (a0 == 45) = false := beq_eq_false_iff_ne.mpr c14
            have c14b1 : (a0 != 45) = true := bne_iff_ne.mpr c14
            by_cases c17 : a0 = 42
            · rw [if_pos c17] at H
              have c17b0 : (a0 == 42) = true := beq_iff_eq.mpr c17
              have c17b1 : (a0 != 42) = false := bne_eq_false_iff_eq.mpr c17
              clear c17
              replace H := Option.bind_eq_some_iff.mp H
              obtain ⟨⟨t238, t239⟩, A180, H⟩ := H
              replace H : (if t239 = true then ((impl_NumOk.f t238).bind fun t240 => (if t240 = true then (some (t238, 0)) else (some (0, 6)))) else (some (0, 6))) = some (r1, r2) := H
              have A18 := Aside0.mk A180
              clear A180
              by_cases c19 : t239 = true
              · subst c19
                have H1 : ((impl_NumOk.f t238).bind fun t240 => (if t240 = true then (some (t238, 0)) else (some (0, 6)))) = some (r1, r2) := by rw [if_pos rfl] at H; exact H
                clear H
                have H := H1
                clear H1
                replace H := Option.bind_eq_some_iff.mp H
                obtain ⟨t240, A200, H⟩ := H
                replace H : (if t240 = true then (some (t238, 0)) else (some (0, 6))) = some (r1, r2) := H
                have A20 := Aside0.mk A200
                clear A200
                by_cases c21 : t240 = true
                · subst c21
                  have H1 : (some (t238, 0)) = some (r1, r2) := by rw [if_pos rfl] at H; exact H
                  clear H
                  have H := H1
                  clear H1
                  simp only [Option.some.injEq, Prod.mk.injEq] at H
                  obtain ⟨rfl, rfl⟩ := H
                  go_wp2_with (first | ((with_reducible refine gate_callee (f := 55) rfl ?_); refine goesL_ (some 43) rfl rfl Try.func55 (by kernel_rfl) rfl #[.int .i64 a1, .int .i64 a2] rfl (by (try simp only [List.map_toArray, List.map_cons, List.map_nil]); first | done | rfl | (simp only [List.length_drop, List.length_take]; rfl)) ?_; (with_reducible refine (impl_product.calls a1 a2 t238 true _ A18.out).mono ?_); rintro e w22 ⟨rfl, hb⟩; refine ⟨_, rfl, ?_⟩; have n0_ := Aside0.mk (below_step (by repeat (first | (with_reducible first | exact HB.out | apply below_alloc | apply pw_below_drewN | apply below_drew1) | exact HB.out)) hb); clear HB; have HB := n0_; clear n0_; (try clear hb); (try clear hb2); (try clear hk); (try clear hi)) | (go_at_call 54; (repeat rw [i64_w]); (with_reducible refine (impl_NumOk.calls t238 true _ A20.out).mono ?_); rintro e w' ⟨rfl, ⟨nd, rfl⟩⟩))
                  go_ret2
                  exact ⟨by first | rfl | (simp [errW_none, errW_some] <;> rfl) | (simp [*, errW_none, errW_some] <;> rfl), by repeat (first | (with_reducible first | exact HB.out | apply below_alloc | apply pw_below_drewN | apply below_drew1) | exact HB.out)⟩
                · replace c21 := Bool.eq_false_iff.mpr c21
                  subst c21
                  have H1 : (some (0, 6)) = some (r1, r2) := by rw [if_neg (show ¬ (false = true) by decide)] at H; exact H
                  clear H
                  have H := H1
                  clear H1
                  simp only [Option.some.injEq, Prod.mk.injEq] at H
                  obtain ⟨rfl, rfl⟩ := H
                  go_wp2_with (first | ((with_reducible refine gate_callee (f := 55) rfl ?_); refine goesL_ (some 43) rfl rfl Try.func55 (by kernel_rfl) rfl #[.int .i64 a1, .int .i64 a2] rfl (by (try simp only [List.map_toArray, List.map_cons, List.map_nil]); first | done | rfl | (simp only [List.length_drop, List.length_take]; rfl)) ?_; (with_reducible refine (impl_product.calls a1 a2 t238 true _ A18.out).mono ?_); rintro e w23 ⟨rfl, hb⟩; refine ⟨_, rfl, ?_⟩; have n0_ := Aside0.mk (below_step (by repeat (first | (with_reducible first | exact HB.out | apply below_alloc | apply pw_below_drewN | apply below_drew1) | exact HB.out)) hb); clear HB; have HB := n0_; clear n0_; (try clear hb); (try clear hb2); (try clear hk); (try clear hi)) | (go_at_call 54; (repeat rw [i64_w]); (with_reducible refine (impl_NumOk.calls t238 false _ A20.out).mono ?_); rintro e w' ⟨rfl, ⟨nd, rfl⟩⟩))
                  go_ret2
                  exact ⟨by first | rfl | (simp [errW_none, errW_some] <;> rfl) | (simp [*, errW_none, errW_some] <;> rfl), by repeat (first | (with_reducible first | exact HB.out | apply below_alloc | apply pw_below_drewN | apply below_drew1) | exact HB.out)⟩
              · replace c19 := Bool.eq_false_iff.mpr c19
                subst c19
                have H1 : (some (0, 6)) = some (r1, r2) := by rw [if_neg (show ¬ (false = true) by decide)] at H; exact H
                clear H
                have H := H1
                clear H1
                simp only [Option.some.injEq, Prod.mk.injEq] at H
                obtain ⟨rfl, rfl⟩ := H
                go_wp2_with (first | ((with_reducible refine gate_callee (f := 55) rfl ?_); refine goesL_ (some 43) rfl rfl Try.func55 (by kernel_rfl) rfl #[.int .i64 a1, .int .i64 a2] rfl (by (try simp only [List.map_toArray, List.map_cons, List.map_nil]); first | done | rfl | (simp only [List.length_drop, List.length_take]; rfl)) ?_; (with_reducible refine (impl_product.calls a1 a2 t238 false _ A18.out).mono ?_); rintro e w24 ⟨rfl, hb⟩; refine ⟨_, rfl, ?_⟩; have n0_ := Aside0.mk (below_step (by repeat (first | (with_reducible first | exact HB.out | apply below_alloc | apply pw_below_drewN | apply below_drew1) | exact HB.out)) hb); clear HB; have HB := n0_; clear n0_; (try clear hb); (try clear hb2); (try clear hk); (try clear hi)))
                go_ret2
                exact ⟨by first | rfl | (simp [errW_none, errW_some] <;> rfl) | (simp [*, errW_none, errW_some] <;> rfl), by repeat (first | (with_reducible first | exact HB.out | apply below_alloc | apply pw_below_drewN | apply below_drew1) | exact HB.out)⟩
            · rw [if_neg c17] at H
              have c17b0 : (a0 == 42) = false := beq_eq_false_iff_ne.mpr c17
              have c17b1 : (a0 != 42) = true := bne_iff_ne.mpr c17
              by_cases c25 : a0 = 37
              · rw [if_pos c25] at H
                have c25b0 : (a0 == 37) = true := beq_iff_eq.mpr c25
                have c25b1 : (a0 != 37) = false := bne_eq_false_iff_eq.mpr c25
                clear c25
                by_cases c26 : a2 = 0
                · rw [if_pos c26] at H
                  have c26b0 : (a2 == 0) = true := beq_iff_eq.mpr c26
                  have c26b1 : (a2 != 0) = false := bne_eq_false_iff_eq.mpr c26
                  clear c26
                  simp only [Option.some.injEq, Prod.mk.injEq] at H
                  obtain ⟨rfl, rfl⟩ := H
                  go_wp2
                  go_ret2
                  exact ⟨by first | rfl | (simp [errW_none, errW_some] <;> rfl) | (simp [*, errW_none, errW_some] <;> rfl), by repeat (first | (with_reducible first | exact HB.out | apply below_alloc | apply pw_below_drewN | apply below_drew1) | exact HB.out)⟩
                · rw [if_neg c26] at H
                  have c26b0 : (a2 == 0) = false := beq_eq_false_iff_ne.mpr c26
                  have c26b1 : (a2 != 0) = true := bne_iff_ne.mpr c26
                  replace H := Option.bind_eq_some_iff.mp H
                  obtain ⟨t241, A270, H⟩ := H
                  replace H : ((impl_NumOk.f t241).bind fun t242 => (if t242 = true then (some (t241, 0)) else (some (0, 6)))) = some (r1, r2) := H
                  have A27 := Aside0.mk A270
                  clear A270
                  replace H := Option.bind_eq_some_iff.mp H
                  obtain ⟨t242, A280, H⟩ := H
                  replace H : (if t242 = true then (some (t241, 0)) else (some (0, 6))) = some (r1, r2) := H
                  have A28 := Aside0.mk A280
                  clear A280
                  by_cases c29 : t242 = true
                  · subst c29
                    have H1 : (some (t241, 0)) = some (r1, r2) := by rw [if_pos rfl] at H; exact H
                    clear H
                    have H := H1
                    clear H1
                    simp only [Option.some.injEq, Prod.mk.injEq] at H
                    obtain ⟨rfl, rfl⟩ := H
                    go_wp2_with (first | ((with_reducible refine gate_callee (f := 56) rfl ?_); refine goesL_ (some 52) rfl rfl Try.func56 (by kernel_rfl) rfl #[.int .i64 a1, .int .i64 a2] rfl (by (try simp only [List.map_toArray, List.map_cons, List.map_nil]); first | done | rfl | (simp only [List.length_drop, List.length_take]; rfl)) ?_; (with_reducible refine (impl_floor.calls a1 a2 t241 _ A27.out).mono ?_); rintro e w' ⟨rfl, ⟨nd, rfl⟩⟩; refine ⟨_, rfl, ?_⟩) | (go_at_call 54; (repeat rw [i64_w]); (with_reducible refine (impl_NumOk.calls t241 true _ A28.out).mono ?_); rintro e w' ⟨rfl, ⟨nd, rfl⟩⟩))
                    go_ret2
                    exact ⟨by first | rfl | (simp [errW_none, errW_some] <;> rfl) | (simp [*, errW_none, errW_some] <;> rfl), by repeat (first | (with_reducible first | exact HB.out | apply below_alloc | apply pw_below_drewN | apply below_drew1) | exact HB.out)⟩
                  · replace c29 := Bool.eq_false_iff.mpr c29
                    subst c29
                    have H1 : (some (0, 6)) = some (r1, r2) := by rw [if_neg (show ¬ (false = true) by decide)] at H; exact H
                    clear H
                    have H := H1
                    clear H1
                    simp only [Option.some.injEq, Prod.mk.injEq] at H
                    obtain ⟨rfl, rfl⟩ := H
                    go_wp2_with (first | ((with_reducible refine gate_callee (f := 56) rfl ?_); refine goesL_ (some 52) rfl rfl Try.func56 (by kernel_rfl) rfl #[.int .i64 a1, .int .i64 a2] rfl (by (try simp only [List.map_toArray, List.map_cons, List.map_nil]); first | done | rfl | (simp only [List.length_drop, List.length_take]; rfl)) ?_; (with_reducible refine (impl_floor.calls a1 a2 t241 _ A27.out).mono ?_); rintro e w' ⟨rfl, ⟨nd, rfl⟩⟩; refine ⟨_, rfl, ?_⟩) | (go_at_call 54; (repeat rw [i64_w]); (with_reducible refine (impl_NumOk.calls t241 false _ A28.out).mono ?_); rintro e w' ⟨rfl, ⟨nd, rfl⟩⟩))
                    go_ret2
                    exact ⟨by first | rfl | (simp [errW_none, errW_some] <;> rfl) | (simp [*, errW_none, errW_some] <;> rfl), by repeat (first | (with_reducible first | exact HB.out | apply below_alloc | apply pw_below_drewN | apply below_drew1) | exact HB.out)⟩
              · rw [if_neg c25] at H
                have c25b0 : (a0 == 37) = false := beq_eq_false_iff_ne.mpr c25
                have c25b1 : (a0 != 37) = true := bne_iff_ne.mpr c25
                by_cases c30 : a0 = 124
                · rw [if_pos c30] at H
                  have c30b0 : (a0 == 124) = true := beq_iff_eq.mpr c30
                  have c30b1 : (a0 != 124) = false := bne_eq_false_iff_eq.mpr c30
                  clear c30
                  by_cases c31 : a1 = 0
                  · rw [if_pos c31] at H
                    have c31b0 : (a1 == 0) = true := beq_iff_eq.mpr c31
                    have c31b1 : (a1 != 0) = false := bne_eq_false_iff_eq.mpr c31
                    clear c31
                    replace H := Option.bind_eq_some_iff.mp H
                    obtain ⟨t243, A320, H⟩ := H
                    replace H : (if t243 = true then (some (a2, 0)) else (some (0, 6))) = some (r1, r2) := H
                    have A32 := Aside0.mk A320
                    clear A320
                    by_cases c33 : t243 = true
                    · subst c33
                      have H1 : (some (a2, 0)) = some (r1, r2) := by rw [if_pos rfl] at H; exact H
                      clear H
                      have H := H1
                      clear H1
                      simp only [Option.some.injEq, Prod.mk.injEq] at H
                      obtain ⟨rfl, rfl⟩ := H
                      go_wp2_with (first | (go_at_call 54; (repeat rw [i64_w]); (with_reducible refine (impl_NumOk.calls a2 true _ A32.out).mono ?_); rintro e w' ⟨rfl, ⟨nd, rfl⟩⟩))
                      go_ret2
                      exact ⟨by first | rfl | (simp [errW_none, errW_some] <;> rfl) | (simp [*, errW_none, errW_some] <;> rfl), by repeat (first | (with_reducible first | exact HB.out | apply below_alloc | apply pw_below_drewN | apply below_drew1) | exact HB.out)⟩
                    · replace c33 := Bool.eq_false_iff.mpr c33
                      subst c33
                      have H1 : (some (0, 6)) = some (r1, r2) := by rw [if_neg (show ¬ (false = true) by decide)] at H; exact H
                      clear H
                      have H := H1
                      clear H1
                      simp only [Option.some.injEq, Prod.mk.injEq] at H
                      obtain ⟨rfl, rfl⟩ := H
                      go_wp2_with (first | (go_at_call 54; (repeat rw [i64_w]); (with_reducible refine (impl_NumOk.calls a2 false _ A32.out).mono ?_); rintro e w' ⟨rfl, ⟨nd, rfl⟩⟩))
                      go_ret2
                      exact ⟨by first | rfl | (simp [errW_none, errW_some] <;> rfl) | (simp [*, errW_none, errW_some] <;> rfl), by repeat (first | (with_reducible first | exact HB.out | apply below_alloc | apply pw_below_drewN | apply below_drew1) | exact HB.out)⟩
                  · rw [if_neg c31] at H
                    have c31b0 : (a1 == 0) = false := beq_eq_false_iff_ne.mpr c31
                    have c31b1 : (a1 != 0) = true := bne_iff_ne.mpr c31
                    replace H := Option.bind_eq_some_iff.mp H
                    obtain ⟨t244, A340, H⟩ := H
                    replace H : ((impl_NumOk.f (wrap64 (a2 - (wrap64 (a1 * t244))))).bind fun t245 => (if t245 = true then (some (wrap64 (a2 - (wrap64 (a1 * t244))), 0)) else (some (0, 6)))) = some (r1, r2) := H
                    have A34 := Aside0.mk A340
                    clear A340
                    replace H := Option.bind_eq_some_iff.mp H
                    obtain ⟨t245, A350, H⟩ := H
                    replace H : (if t245 = true then (some (wrap64 (a2 - (wrap64 (a1 * t244))), 0)) else (some (0, 6))) = some (r1, r2) := H
                    have A35 := Aside0.mk A350
                    clear A350
                    by_cases c36 : t245 = true
                    · subst c36
                      have H1 : (some (wrap64 (a2 - (wrap64 (a1 * t244))), 0)) = some (r1, r2) := by rw [if_pos rfl] at H; exact H
                      clear H
                      have H := H1
                      clear H1
                      simp only [Option.some.injEq, Prod.mk.injEq] at H
                      obtain ⟨rfl, rfl⟩ := H
                      go_wp2_with (first | ((with_reducible refine gate_callee (f := 56) rfl ?_); refine goesL_ (some 62) rfl rfl Try.func56 (by kernel_rfl) rfl #[.int .i64 a2, .int .i64 a1] rfl (by (try simp only [List.map_toArray, List.map_cons, List.map_nil]); first | done | rfl | (simp only [List.length_drop, List.length_take]; rfl)) ?_; (with_reducible refine (impl_floor.calls a2 a1 t244 _ A34.out).mono ?_); rintro e w' ⟨rfl, ⟨nd, rfl⟩⟩; refine ⟨_, rfl, ?_⟩) | (go_at_call 54; (repeat rw [i64_w]); (with_reducible refine (impl_NumOk.calls (wrap64 (a2 - (wrap64 (a1 * t244)))) true _ A35.out).mono ?_); rintro e w' ⟨rfl, ⟨nd, rfl⟩⟩))
                      go_ret2
                      exact ⟨by first | rfl | (simp [errW_none, errW_some] <;> rfl) | (simp [*, errW_none, errW_some] <;> rfl), by repeat (first | (with_reducible first | exact HB.out | apply below_alloc | apply pw_below_drewN | apply below_drew1) | exact HB.out)⟩
                    · replace c36 := Bool.eq_false_iff.mpr c36
                      subst c36
                      have H1 : (some (0, 6)) = some (r1, r2) := by rw [if_neg (show ¬ (false = true) by decide)] at H; exact H
                      clear H
                      have H := H1
                      clear H1
                      simp only [Option.some.injEq, Prod.mk.injEq] at H
                      obtain ⟨rfl, rfl⟩ := H
                      go_wp2_with (first | ((with_reducible refine gate_callee (f := 56) rfl ?_); refine goesL_ (some 62) rfl rfl Try.func56 (by kernel_rfl) rfl #[.int .i64 a2, .int .i64 a1] rfl (by (try simp only [List.map_toArray, List.map_cons, List.map_nil]); first | done | rfl | (simp only [List.length_drop, List.length_take]; rfl)) ?_; (with_reducible refine (impl_floor.calls a2 a1 t244 _ A34.out).mono ?_); rintro e w' ⟨rfl, ⟨nd, rfl⟩⟩; refine ⟨_, rfl, ?_⟩) | (go_at_call 54; (repeat rw [i64_w]); (with_reducible refine (impl_NumOk.calls (wrap64 (a2 - (wrap64 (a1 * t244)))) false _ A35.out).mono ?_); rintro e w' ⟨rfl, ⟨nd, rfl⟩⟩))
                      go_ret2
                      exact ⟨by first | rfl | (simp [errW_none, errW_some] <;> rfl) | (simp [*, errW_none, errW_some] <;> rfl), by repeat (first | (with_reducible first | exact HB.out | apply below_alloc | apply pw_below_drewN | apply below_drew1) | exact HB.out)⟩
                · rw [if_neg c30] at H
                  have c30b0 : (a0 == 124) = false := beq_eq_false_iff_ne.mpr c30
                  have c30b1 : (a0 != 124) = true := bne_iff_ne.mpr c30
                  by_cases c37 : a0 = 38
                  · rw [if_pos c37] at H
                    have c37b0 : (a0 == 38) = true := beq_iff_eq.mpr c37
                    have c37b1 : (a0 != 38) = false := bne_eq_false_iff_eq.mpr c37
                    clear c37
                    obtain ⟨ji38, hji38⟩ : ∃ j_ : Int, (mn a1 a2) = j_ := ⟨_, rfl⟩
                    replace H : ((impl_NumOk.f (ji38)).bind fun t246 => (if t246 = true then (some (ji38, 0)) else (some (0, 6)))) = some (r1, r2) := by first | (rw [hji38] at H; exact H) | (simp only [hji38] at H ⊢; exact H)
                    have hji38_ : (if a2 < a1 then a2 else a1) = ji38 := hji38
                    replace H := Option.bind_eq_some_iff.mp H
                    obtain ⟨t246, A390, H⟩ := H
                    replace H : (if t246 = true then (some (ji38, 0)) else (some (0, 6))) = some (r1, r2) := H
                    have A39 := Aside0.mk A390
                    clear A390
                    by_cases c40 : t246 = true
                    · subst c40
                      have H1 : (some (ji38, 0)) = some (r1, r2) := by rw [if_pos rfl] at H; exact H
                      clear H
                      have H := H1
                      clear H1
                      simp only [Option.some.injEq, Prod.mk.injEq] at H
                      obtain ⟨rfl, rfl⟩ := H
                      go_wp2_with (first | (go_at_call 54; (repeat rw [i64_w]); (with_reducible refine (impl_NumOk.calls ji38 true _ A39.out).mono ?_); rintro e w' ⟨rfl, ⟨nd, rfl⟩⟩))
                      go_ret2
                      exact ⟨by first | rfl | (simp [errW_none, errW_some] <;> rfl) | (simp only [← hji38]; first | rfl | (simp [errW_none, errW_some] <;> rfl)) | (simp [*, errW_none, errW_some] <;> rfl), by repeat (first | (with_reducible first | exact HB.out | apply below_alloc | apply pw_below_drewN | apply below_drew1) | exact HB.out)⟩
                    · replace c40 := Bool.eq_false_iff.mpr c40
                      subst c40
                      have H1 : (some (0, 6)) = some (r1, r2) := by rw [if_neg (show ¬ (false = true) by decide)] at H; exact H
                      clear H
                      have H := H1
                      clear H1
                      simp only [Option.some.injEq, Prod.mk.injEq] at H
                      obtain ⟨rfl, rfl⟩ := H
                      go_wp2_with (first | (go_at_call 54; (repeat rw [i64_w]); (with_reducible refine (impl_NumOk.calls ji38 false _ A39.out).mono ?_); rintro e w' ⟨rfl, ⟨nd, rfl⟩⟩))
                      go_ret2
                      exact ⟨by first | rfl | (simp [errW_none, errW_some] <;> rfl) | (simp only [← hji38]; first | rfl | (simp [errW_none, errW_some] <;> rfl)) | (simp [*, errW_none, errW_some] <;> rfl), by repeat (first | (with_reducible first | exact HB.out | apply below_alloc | apply pw_below_drewN | apply below_drew1) | exact HB.out)⟩
                  · rw [if_neg c37] at H
                    have c37b0 : (a0 == 38) = false := beq_eq_false_iff_ne.mpr c37
                    have c37b1 : (a0 != 38) = true := bne_iff_ne.mpr c37
                    by_cases c41 : a0 = 94
                    · rw [if_pos c41] at H
                      have c41b0 : (a0 == 94) = true := beq_iff_eq.mpr c41
                      have c41b1 : (a0 != 94) = false := bne_eq_false_iff_eq.mpr c41
                      clear c41
                      obtain ⟨ji42, hji42⟩ : ∃ j_ : Int, (mx a1 a2) = j_ := ⟨_, rfl⟩
                      replace H : ((impl_NumOk.f (ji42)).bind fun t247 => (if t247 = true then (some (ji42, 0)) else (some (0, 6)))) = some (r1, r2) := by first | (rw [hji42] at H; exact H) | (simp only [hji42] at H ⊢; exact H)
                      have hji42_ : (if a1 < a2 then a2 else a1) = ji42 := hji42
                      replace H := Option.bind_eq_some_iff.mp H
                      obtain ⟨t247, A430, H⟩ := H
                      replace H : (if t247 = true then (some (ji42, 0)) else (some (0, 6))) = some (r1, r2) := H
                      have A43 := Aside0.mk A430
                      clear A430
                      by_cases c44 : t247 = true
                      · subst c44
                        have H1 : (some (ji42, 0)) = some (r1, r2) := by rw [if_pos rfl] at H; exact H
                        clear H
                        have H := H1
                        clear H1
                        simp only [Option.some.injEq, Prod.mk.injEq] at H
                        obtain ⟨rfl, rfl⟩ := H
                        go_wp2_with (first | (go_at_call 54; (repeat rw [i64_w]); (with_reducible refine (impl_NumOk.calls ji42 true _ A43.out).mono ?_); rintro e w' ⟨rfl, ⟨nd, rfl⟩⟩))
                        go_ret2
                        exact ⟨by first | rfl | (simp [errW_none, errW_some] <;> rfl) | (simp only [← hji42]; first | rfl | (simp [errW_none, errW_some] <;> rfl)) | (simp [*, errW_none, errW_some] <;> rfl), by repeat (first | (with_reducible first | exact HB.out | apply below_alloc | apply pw_below_drewN | apply below_drew1) | exact HB.out)⟩
                      · replace c44 := Bool.eq_false_iff.mpr c44
                        subst c44
                        have H1 : (some (0, 6)) = some (r1, r2) := by rw [if_neg (show ¬ (false = true) by decide)] at H; exact H
                        clear H
                        have H := H1
                        clear H1
                        simp only [Option.some.injEq, Prod.mk.injEq] at H
                        obtain ⟨rfl, rfl⟩ := H
                        go_wp2_with (first | (go_at_call 54; (repeat rw [i64_w]); (with_reducible refine (impl_NumOk.calls ji42 false _ A43.out).mono ?_); rintro e w' ⟨rfl, ⟨nd, rfl⟩⟩))
                        go_ret2
                        exact ⟨by first | rfl | (simp [errW_none, errW_some] <;> rfl) | (simp only [← hji42]; first | rfl | (simp [errW_none, errW_some] <;> rfl)) | (simp [*, errW_none, errW_some] <;> rfl), by repeat (first | (with_reducible first | exact HB.out | apply below_alloc | apply pw_below_drewN | apply below_drew1) | exact HB.out)⟩
                    · rw [if_neg c41] at H
                      have c41b0 : (a0 == 94) = false := beq_eq_false_iff_ne.mpr c41
                      have c41b1 : (a0 != 94) = true := bne_iff_ne.mpr c41
                      by_cases c45 : a0 = 61
                      · rw [if_pos c45] at H
                        have c45b0 : (a0 == 61) = true := beq_iff_eq.mpr c45
                        have c45b1 : (a0 != 61) = false := bne_eq_false_iff_eq.mpr c45
                        clear c45
                        replace H := Option.bind_eq_some_iff.mp H
                        obtain ⟨t248, A460, H⟩ := H
                        replace H : ((impl_NumOk.f t248).bind fun t249 => (if t249 = true then (some (t248, 0)) else (some (0, 6)))) = some (r1, r2) := H
                        have A46 := Aside0.mk A460
                        clear A460
                        replace H := Option.bind_eq_some_iff.mp H
                        obtain ⟨t249, A470, H⟩ := H
                        replace H : (if t249 = true then (some (t248, 0)) else (some (0, 6))) = some (r1, r2) := H
                        have A47 := Aside0.mk A470
                        clear A470
                        by_cases c48 : t249 = true
                        · subst c48
                          have H1 : (some (t248, 0)) = some (r1, r2) := by rw [if_pos rfl] at H; exact H
                          clear H
                          have H := H1
                          clear H1
                          simp only [Option.some.injEq, Prod.mk.injEq] at H
                          obtain ⟨rfl, rfl⟩ := H
                          go_wp2_with (first | ((with_reducible refine gate_callee (f := 57) rfl ?_); refine goesL_ (some 80) rfl rfl Try.func57 (by kernel_rfl) rfl #[.bool (a1 == a2)] rfl (by (try simp only [List.map_toArray, List.map_cons, List.map_nil]); first | done | rfl | (simp only [List.length_drop, List.length_take]; rfl)) ?_; (with_reducible refine (impl_truth.calls (a1 == a2) t248 _ A46.out).mono ?_); rintro e w' ⟨rfl, ⟨nd, rfl⟩⟩; refine ⟨_, rfl, ?_⟩) | (go_at_call 54; (repeat rw [i64_w]); (with_reducible refine (impl_NumOk.calls t248 true _ A47.out).mono ?_); rintro e w' ⟨rfl, ⟨nd, rfl⟩⟩))
                          go_ret2
                          exact ⟨by first | rfl | (simp [errW_none, errW_some] <;> rfl) | (simp [*, errW_none, errW_some] <;> rfl), by repeat (first | (with_reducible first | exact HB.out | apply below_alloc | apply pw_below_drewN | apply below_drew1) | exact HB.out)⟩
                        · replace c48 := Bool.eq_false_iff.mpr c48
                          subst c48
                          have H1 : (some (0, 6)) = some (r1, r2) := by rw [if_neg (show ¬ (false = true) by decide)] at H; exact H
                          clear H
                          have H := H1
                          clear H1
                          simp only [Option.some.injEq, Prod.mk.injEq] at H
                          obtain ⟨rfl, rfl⟩ := H
                          go_wp2_with (first | ((with_reducible refine gate_callee (f := 57) rfl ?_); refine goesL_ (some 80) rfl rfl Try.func57 (by kernel_rfl) rfl #[.bool (a1 == a2)] rfl (by (try simp only [List.map_toArray, List.map_cons, List.map_nil]); first | done | rfl | (simp only [List.length_drop, List.length_take]; rfl)) ?_; (with_reducible refine (impl_truth.calls (a1 == a2) t248 _ A46.out).mono ?_); rintro e w' ⟨rfl, ⟨nd, rfl⟩⟩; refine ⟨_, rfl, ?_⟩) | (go_at_call 54; (repeat rw [i64_w]); (with_reducible refine (impl_NumOk.calls t248 false _ A47.out).mono ?_); rintro e w' ⟨rfl, ⟨nd, rfl⟩⟩))
                          go_ret2
                          exact ⟨by first | rfl | (simp [errW_none, errW_some] <;> rfl) | (simp [*, errW_none, errW_some] <;> rfl), by repeat (first | (with_reducible first | exact HB.out | apply below_alloc | apply pw_below_drewN | apply below_drew1) | exact HB.out)⟩
                      · rw [if_neg c45] at H
                        have c45b0 : (a0 == 61) = false := beq_eq_false_iff_ne.mpr c45
                        have c45b1 : (a0 != 61) = true := bne_iff_ne.mpr c45
                        by_cases c49 : a0 = 60
                        · rw [if_pos c49] at H
                          have c49b0 : (a0 == 60) = true := beq_iff_eq.mpr c49
                          have c49b1 : (a0 != 60) = false := bne_eq_false_iff_eq.mpr c49
                          clear c49
                          replace H := Option.bind_eq_some_iff.mp H
                          obtain ⟨t250, A500, H⟩ := H
                          replace H : ((impl_NumOk.f t250).bind fun t251 => (if t251 = true then (some (t250, 0)) else (some (0, 6)))) = some (r1, r2) := H
                          have A50 := Aside0.mk A500
                          clear A500
                          replace H := Option.bind_eq_some_iff.mp H
                          obtain ⟨t251, A510, H⟩ := H
                          replace H : (if t251 = true then (some (t250, 0)) else (some (0, 6))) = some (r1, r2) := H
                          have A51 := Aside0.mk A510
                          clear A510
                          by_cases c52 : t251 = true
                          · subst c52
                            have H1 : (some (t250, 0)) = some (r1, r2) := by rw [if_pos rfl] at H; exact H
                            clear H
                            have H := H1
                            clear H1
                            simp only [Option.some.injEq, Prod.mk.injEq] at H
                            obtain ⟨rfl, rfl⟩ := H
                            go_wp2_with (first | ((with_reducible refine gate_callee (f := 57) rfl ?_); refine goesL_ (some 86) rfl rfl Try.func57 (by kernel_rfl) rfl #[.bool (decide (a1 < a2))] rfl (by (try simp only [List.map_toArray, List.map_cons, List.map_nil]); first | done | rfl | (simp only [List.length_drop, List.length_take]; rfl)) ?_; (with_reducible refine (impl_truth.calls (decide (a1 < a2)) t250 _ A50.out).mono ?_); rintro e w' ⟨rfl, ⟨nd, rfl⟩⟩; refine ⟨_, rfl, ?_⟩) | (go_at_call 54; (repeat rw [i64_w]); (with_reducible refine (impl_NumOk.calls t250 true _ A51.out).mono ?_); rintro e w' ⟨rfl, ⟨nd, rfl⟩⟩))
                            go_ret2
                            exact ⟨by first | rfl | (simp [errW_none, errW_some] <;> rfl) | (simp [*, errW_none, errW_some] <;> rfl), by repeat (first | (with_reducible first | exact HB.out | apply below_alloc | apply pw_below_drewN | apply below_drew1) | exact HB.out)⟩
                          · replace c52 := Bool.eq_false_iff.mpr c52
                            subst c52
                            have H1 : (some (0, 6)) = some (r1, r2) := by rw [if_neg (show ¬ (false = true) by decide)] at H; exact H
                            clear H
                            have H := H1
                            clear H1
                            simp only [Option.some.injEq, Prod.mk.injEq] at H
                            obtain ⟨rfl, rfl⟩ := H
                            go_wp2_with (first | ((with_reducible refine gate_callee (f := 57) rfl ?_); refine goesL_ (some 86) rfl rfl Try.func57 (by kernel_rfl) rfl #[.bool (decide (a1 < a2))] rfl (by (try simp only [List.map_toArray, List.map_cons, List.map_nil]); first | done | rfl | (simp only [List.length_drop, List.length_take]; rfl)) ?_; (with_reducible refine (impl_truth.calls (decide (a1 < a2)) t250 _ A50.out).mono ?_); rintro e w' ⟨rfl, ⟨nd, rfl⟩⟩; refine ⟨_, rfl, ?_⟩) | (go_at_call 54; (repeat rw [i64_w]); (with_reducible refine (impl_NumOk.calls t250 false _ A51.out).mono ?_); rintro e w' ⟨rfl, ⟨nd, rfl⟩⟩))
                            go_ret2
                            exact ⟨by first | rfl | (simp [errW_none, errW_some] <;> rfl) | (simp [*, errW_none, errW_some] <;> rfl), by repeat (first | (with_reducible first | exact HB.out | apply below_alloc | apply pw_below_drewN | apply below_drew1) | exact HB.out)⟩
                        · rw [if_neg c49] at H
                          have c49b0 : (a0 == 60) = false := beq_eq_false_iff_ne.mpr c49
                          have c49b1 : (a0 != 60) = true := bne_iff_ne.mpr c49
                          replace H := Option.bind_eq_some_iff.mp H
                          obtain ⟨t252, A530, H⟩ := H
                          replace H : ((impl_NumOk.f t252).bind fun t253 => (if t253 = true then (some (t252, 0)) else (some (0, 6)))) = some (r1, r2) := H
                          have A53 := Aside0.mk A530
                          clear A530
                          replace H := Option.bind_eq_some_iff.mp H
                          obtain ⟨t253, A540, H⟩ := H
                          replace H : (if t253 = true then (some (t252, 0)) else (some (0, 6))) = some (r1, r2) := H
                          have A54 := Aside0.mk A540
                          clear A540
                          by_cases c55 : t253 = true
                          · subst c55
                            have H1 : (some (t252, 0)) = some (r1, r2) := by rw [if_pos rfl] at H; exact H
                            clear H
                            have H := H1
                            clear H1
                            simp only [Option.some.injEq, Prod.mk.injEq] at H
                            obtain ⟨rfl, rfl⟩ := H
                            go_wp2_with (first | ((with_reducible refine gate_callee (f := 57) rfl ?_); refine goesL_ (some 27) rfl rfl Try.func57 (by kernel_rfl) rfl #[.bool (decide (a1 > a2))] rfl (by (try simp only [List.map_toArray, List.map_cons, List.map_nil]); first | done | rfl | (simp only [List.length_drop, List.length_take]; rfl)) ?_; (with_reducible refine (impl_truth.calls (decide (a1 > a2)) t252 _ A53.out).mono ?_); rintro e w' ⟨rfl, ⟨nd, rfl⟩⟩; refine ⟨_, rfl, ?_⟩) | (go_at_call 54; (repeat rw [i64_w]); (with_reducible refine (impl_NumOk.calls t252 true _ A54.out).mono ?_); rintro e w' ⟨rfl, ⟨nd, rfl⟩⟩))
                            go_ret2
                            exact ⟨by first | rfl | (simp [errW_none, errW_some] <;> rfl) | (simp [*, errW_none, errW_some] <;> rfl), by repeat (first | (with_reducible first | exact HB.out | apply below_alloc | apply pw_below_drewN | apply below_drew1) | exact HB.out)⟩
                          · replace c55 := Bool.eq_false_iff.mpr c55
                            subst c55
                            have H1 : (some (0, 6)) = some (r1, r2) := by rw [if_neg (show ¬ (false = true) by decide)] at H; exact H
                            clear H
                            have H := H1
                            clear H1
                            simp only [Option.some.injEq, Prod.mk.injEq] at H
                            obtain ⟨rfl, rfl⟩ := H
                            go_wp2_with (first | ((with_reducible refine gate_callee (f := 57) rfl ?_); refine goesL_ (some 27) rfl rfl Try.func57 (by kernel_rfl) rfl #[.bool (decide (a1 > a2))] rfl (by (try simp only [List.map_toArray, List.map_cons, List.map_nil]); first | done | rfl | (simp only [List.length_drop, List.length_take]; rfl)) ?_; (with_reducible refine (impl_truth.calls (decide (a1 > a2)) t252 _ A53.out).mono ?_); rintro e w' ⟨rfl, ⟨nd, rfl⟩⟩; refine ⟨_, rfl, ?_⟩) | (go_at_call 54; (repeat rw [i64_w]); (with_reducible refine (impl_NumOk.calls t252 false _ A54.out).mono ?_); rintro e w' ⟨rfl, ⟨nd, rfl⟩⟩))
                            go_ret2
                            exact ⟨by first | rfl | (simp [errW_none, errW_some] <;> rfl) | (simp [*, errW_none, errW_some] <;> rfl), by repeat (first | (with_reducible first | exact HB.out | apply below_alloc | apply pw_below_drewN | apply below_drew1) | exact HB.out)⟩

/-! ### impl_at: function 31 -/
def impl_at.f (l0_0 : List Int) (l0_1 : List Int) (a1 : Int) : Option (Int) := if (l0_0.length : Int) = 0 then (if 0 < (l0_1.length : Int) then (some (rd l0_1 0)) else (none)) else (if 0 ≤ a1 then (if a1 < (l0_1.length : Int) then (some (rd l0_1 a1)) else (none)) else (none))
set_option maxHeartbeats 8000000 in
set_option maxRecDepth 100000 in
theorem impl_at.calls (A0_0 : Option Addr) (c0_0 : Nat) (l0_0 : List Int) (A0_1 : Option Addr) (c0_1 : Nat) (l0_1 : List Int) (a1 : Int) (r : Int) (w : World) (hr0_0 : Kd.C (Kd.int .i64) w A0_0 l0_0.length l0_0) (hc0_0 : l0_0.length ≤ c0_0) (hr0_1 : Kd.C (Kd.int .i64) w A0_1 l0_1.length l0_1) (hc0_1 : l0_1.length ≤ c0_1) (h : impl_at.f l0_0 l0_1 a1 = some r) :
    Calls Try.prog 31 #[.agg #[.slice A0_0 l0_0.length c0_0, .slice A0_1 l0_1.length c0_1], .int .i64 a1] w fun e w' => e = .returned (.int .i64 r) ∧ Below w.heap.size w w' := by
  have hu26 := Try.underlying26
  have HR0_0 := Aside0.mk hr0_0
  have HC0_0 := Aside0.mk hc0_0
  clear hr0_0 hc0_0
  have HR0_1 := Aside0.mk hr0_1
  have HC0_1 := Aside0.mk hc0_1
  clear hr0_1 hc0_1
  have HB := Aside0.mk (Below.refl w.heap.size w)
  have H : (if (l0_0.length : Int) = 0 then (if 0 < (l0_1.length : Int) then (some (rd l0_1 0)) else (none)) else (if 0 ≤ a1 then (if a1 < (l0_1.length : Int) then (some (rd l0_1 a1)) else (none)) else (none))) = some r := h
  clear h
  by_cases c3 : (l0_0.length : Int) = 0
  · rw [if_pos c3] at H
    have c3b0 : ((l0_0.length : Int) == 0) = true := beq_iff_eq.mpr c3
    have c3b1 : ((l0_0.length : Int) != 0) = false := bne_eq_false_iff_eq.mpr c3
    clear c3
    by_cases c4 : 0 < (l0_1.length : Int)
    · rw [if_pos c4] at H
      have c4b0 : decide (0 < (l0_1.length : Int)) = true := decide_eq_true c4
      have c4b1 : decide (0 < l0_1.length) = true := decide_eq_true (by omega)
      clear c4
      obtain rfl := Option.some.inj H
      go_enter Try.func31, Try.ntmps31
      go_wp2_with (first | ((with_reducible refine gate_dst (N := 2) rfl ?_); refine box_event ?hg (N := 2) ?hd (cs := #[.slice A0_0 l0_0.length c0_0, .slice A0_1 l0_1.length c0_1]) (t := 26) ?hr ?_; (case hd => rfl); (case hg => rfl); (case hr => first | (go_simp; done) | (go_simp; rfl)); intro gb254 hg w5 hbox hb; have n0_ := Aside0.mk (below_step (by repeat (first | (with_reducible first | exact HB.out | apply below_alloc | apply pw_below_drewN | apply below_drew1) | exact HB.out)) hb); have n1_ := Aside0.mk (hbox); have n2_ := Aside0.mk ((by rw [hg]; exact (below_size (by repeat (first | (with_reducible first | exact HB.out | apply below_alloc | apply pw_below_drewN | apply below_drew1) | exact HB.out))) : w.heap.size ≤ gb254)); have n3_ := Aside0.mk ((by rw [hg]; exact (below_size (by repeat (first | (with_reducible first | exact HB.out | apply below_alloc | apply pw_below_drewN | apply below_drew1) | exact HB.out))) : w.heap.size ≤ gb254)); clear HB; have HB := n0_; have BK254 := n1_; have GW254 := n2_; have GE254 := n3_; clear n0_ n1_ n2_ n3_; clear hb hbox hg; have hcz6_0 : w5.cell? ⟨gb254, 0, none⟩ = some (.slice A0_0 l0_0.length c0_0) := (blk_cell BK254.out 0).trans rfl; have hcz6_1 : w5.cell? ⟨gb254, 1, none⟩ = some (.slice A0_1 l0_1.length c0_1) := (blk_cell BK254.out 1).trans rfl; have hfz6_0 := blk_frozen BK254.out 0; have hfz6_1 := blk_frozen BK254.out 1; have p255 : 0 ≤ (0 : Int) := (by omega); have q255 : 0 < (l0_1.length : Int) := of_decide_eq_true (by first | (with_reducible assumption) | assumption); obtain ⟨ad255, e255, hx255_0⟩ := Kd.at_int HR0_1.out 0 p255 q255; cases e255; have qi255 : (0 < l0_1.length) = True := eq_true (by omega); (try rw [show ((0 : Int)).toNat = 0 from rfl] at hx255_0); (try rw [Addr.add_zero'] at hx255_0); replace hx255_0 := (HB.out.cell (World.block_lt_of_cell? w _ hx255_0)).trans hx255_0; replace p255 := eq_true p255; replace q255 := eq_true q255))
      go_ret
      exact ⟨by first | rfl | (simp [errW_none, errW_some] <;> rfl) | (simp [*, errW_none, errW_some] <;> rfl), by repeat (first | (with_reducible first | exact HB.out | apply below_alloc | apply pw_below_drewN | apply below_drew1 | refine below_set ?_ GE254.out) | exact HB.out)⟩
    · rw [if_neg c4] at H
      exact absurd H (by simp)
  · rw [if_neg c3] at H
    have c3b0 : ((l0_0.length : Int) == 0) = false := beq_eq_false_iff_ne.mpr c3
    have c3b1 : ((l0_0.length : Int) != 0) = true := bne_iff_ne.mpr c3
    have c3b2 : ¬ (l0_0 = []) := fun h_ => c3 (by rw [h_]; rfl)
    by_cases c7 : 0 ≤ a1
    · rw [if_pos c7] at H
      have c7b0 : decide (0 ≤ a1) = true := decide_eq_true c7
      clear c7
      by_cases c8 : a1 < (l0_1.length : Int)
      · rw [if_pos c8] at H
        have c8b0 : decide (a1 < (l0_1.length : Int)) = true := decide_eq_true c8
        clear c8
        obtain rfl := Option.some.inj H
        go_enter Try.func31, Try.ntmps31
        go_wp2_with (first | ((with_reducible refine gate_dst (N := 2) rfl ?_); refine box_event ?hg (N := 2) ?hd (cs := #[.slice A0_0 l0_0.length c0_0, .slice A0_1 l0_1.length c0_1]) (t := 26) ?hr ?_; (case hd => rfl); (case hg => rfl); (case hr => first | (go_simp; done) | (go_simp; rfl)); intro gb254 hg w9 hbox hb; have n0_ := Aside0.mk (below_step (by repeat (first | (with_reducible first | exact HB.out | apply below_alloc | apply pw_below_drewN | apply below_drew1) | exact HB.out)) hb); have n1_ := Aside0.mk (hbox); have n2_ := Aside0.mk ((by rw [hg]; exact (below_size (by repeat (first | (with_reducible first | exact HB.out | apply below_alloc | apply pw_below_drewN | apply below_drew1) | exact HB.out))) : w.heap.size ≤ gb254)); have n3_ := Aside0.mk ((by rw [hg]; exact (below_size (by repeat (first | (with_reducible first | exact HB.out | apply below_alloc | apply pw_below_drewN | apply below_drew1) | exact HB.out))) : w.heap.size ≤ gb254)); clear HB; have HB := n0_; have BK254 := n1_; have GW254 := n2_; have GE254 := n3_; clear n0_ n1_ n2_ n3_; clear hb hbox hg; have hcz10_0 : w9.cell? ⟨gb254, 0, none⟩ = some (.slice A0_0 l0_0.length c0_0) := (blk_cell BK254.out 0).trans rfl; have hcz10_1 : w9.cell? ⟨gb254, 1, none⟩ = some (.slice A0_1 l0_1.length c0_1) := (blk_cell BK254.out 1).trans rfl; have hfz10_0 := blk_frozen BK254.out 0; have hfz10_1 := blk_frozen BK254.out 1; have p256 : 0 ≤ (a1 : Int) := of_decide_eq_true (by first | (with_reducible assumption) | assumption); have q256 : a1 < (l0_1.length : Int) := of_decide_eq_true (by first | (with_reducible assumption) | assumption); obtain ⟨ad256, e256, hx256_0⟩ := Kd.at_int HR0_1.out a1 p256 q256; cases e256; replace hx256_0 := (HB.out.cell (World.block_lt_of_cell? w _ hx256_0)).trans hx256_0; replace p256 := eq_true p256; replace q256 := eq_true q256))
        go_ret
        exact ⟨by first | rfl | (simp [errW_none, errW_some] <;> rfl) | (simp [*, errW_none, errW_some] <;> rfl), by repeat (first | (with_reducible first | exact HB.out | apply below_alloc | apply pw_below_drewN | apply below_drew1 | refine below_set ?_ GE254.out) | exact HB.out)⟩
      · rw [if_neg c8] at H
        exact absurd H (by simp)
    · rw [if_neg c7] at H
      exact absurd H (by simp)

end Go.Proofs.Ytjkbndfaemjjiaa.PFnExactEachTwo
