/- The walk of what a law reaches, for the law's row: written by a program of this session; it has no condition of its own. -/
import Derived.Test.YtlaikodjcjfeiaaPFnDividex0
import Derived.Test.YtlaikodjcjfeiaaPFnDividex1
import Derived.Test.YtlaikodjcjfeiaaPFnDividex2
import Derived.Test.YtlaikodjcjfeiaaPFnDividex3
import Derived.Test.YtlaikodjcjfeiaaPFnDividex4
namespace Go.Proofs.Ytlaikodjcjfeiaa.PFnDivide
open Go.RowKit Go.Proofs.YtlaikodjcjfeiaaW.PrintWords Go.Proofs.YtlaikodjcjfeiaaW.PrintLast Go.Proofs.YtlaikodjcjfeiaaW.PrintMore
attribute [local go_sem] max2_int min2_int max_two min_two max_three min_three max_four min_four   -- for this text's walks alone
set_option linter.unusedVariables false
set_option linter.unusedSimpArgs false

/-! ### laws_FnDivide: function 14 -/
def laws_FnDivide.j0 : Nat → Int → Int → Int → Int → Int → Int → Bool → Option (Bool)
  | 0, _, _, _, _, _, _, _ => none
  | k + 1, x4, x5, x6, x7, x8, x9, x48 => if x48 = true then (if x7 = 1 then (some (x9 == 1)) else (some false)) else (if x5 = 0 then (if x7 = 2 then (if x9 = 0 then (some (x8 == x4)) else (some false)) else (some false)) else (if x7 = 0 then (if x9 = 0 then (if x4 = (wrap64 ((wrap64 (x6 * x5)) + x8)) then (if x5 > 0 then (if x8 ≥ 0 then (if x8 < x5 then (some true) else (if x5 < 0 then (if x8 ≤ 0 then (some (decide (x8 > x5))) else (some false)) else (some false))) else (if x5 < 0 then (if x8 ≤ 0 then (some (decide (x8 > x5))) else (some false)) else (some false))) else (if x5 < 0 then (if x8 ≤ 0 then (some (decide (x8 > x5))) else (some false)) else (some false))) else (some false)) else (some false)) else (some false)))
def laws_FnDivide.f (k : Nat) (l0 : List Int) : Option (Bool) := (laws_big.f l0).bind fun t229 => (if t229 = true then (some true) else ((spec_DrawTwo.f k l0).bind fun bt230 => ((impl_Two.f k 37 bt230.2.1 bt230.2.2).bind fun bt233 => ((impl_Two.f k 124 bt230.2.2 bt230.2.1).bind fun bt235 => ((spec_Two.f k 37 bt230.2.1 bt230.2.2).bind fun bt237 => (if bt233.2 = bt237.2 then ((impl_NumOk.f bt230.2.1).bind fun t239 => (if t239 = true then ((impl_NumOk.f bt230.2.2).bind fun t240 => (laws_FnDivide.j0 k bt230.2.1 bt230.2.2 bt233.1 bt233.2 bt235.1 bt235.2 (!t240))) else (laws_FnDivide.j0 k bt230.2.1 bt230.2.2 bt233.1 bt233.2 bt235.1 bt235.2 true))) else (some false)))))))
theorem laws_FnDivide.mono_l : ∀ k, (∀ y0 y1 y2 y3 y4 y5 y6, LeO (laws_FnDivide.j0 k y0 y1 y2 y3 y4 y5 y6) (laws_FnDivide.j0 (k + 1) y0 y1 y2 y3 y4 y5 y6))
  | 0 => fun _ _ _ _ _ _ _ r h => by simp [laws_FnDivide.j0] at h
  | k + 1 => by
    have ih0 := laws_FnDivide.mono_l k
    · intro y0 y1 y2 y3 y4 y5 y6
      unfold laws_FnDivide.j0
      repeat' first
      | (with_reducible exact ih0 _ _ _ _ _ _ _)
      | (with_reducible exact impl_Two.mono _ _ _ _)
      | (with_reducible exact spec_DrawTwo.mono _ _)
      | (with_reducible exact spec_Two.mono _ _ _ _)
      | (with_reducible exact LeO.refl _)
      | (with_reducible exact LeO.none _)
      | (with_reducible refine LeO.ite ?_ ?_)
      | (with_reducible refine LeO.bind ?_ (fun _ => ?_))
      | exact ih0 _ _ _ _ _ _ _
      | exact impl_Two.mono _ _ _ _
      | exact spec_DrawTwo.mono _ _
      | exact spec_Two.mono _ _ _ _
      | exact LeO.none _
      | refine LeO.ite ?_ ?_
      | refine LeO.bind ?_ (fun _ => ?_)
theorem laws_FnDivide.mono : ∀ a0 k, LeO (laws_FnDivide.f k a0) (laws_FnDivide.f (k + 1) a0) := by
  intro a0 k
  have ih0 := laws_FnDivide.mono_l k
  unfold laws_FnDivide.f
  repeat' first
      | (with_reducible exact ih0 _ _ _ _ _ _ _)
      | (with_reducible exact impl_Two.mono _ _ _ _)
      | (with_reducible exact spec_DrawTwo.mono _ _)
      | (with_reducible exact spec_Two.mono _ _ _ _)
      | (with_reducible exact LeO.refl _)
      | (with_reducible exact LeO.none _)
      | (with_reducible refine LeO.ite ?_ ?_)
      | (with_reducible refine LeO.bind ?_ (fun _ => ?_))
      | exact ih0 _ _ _ _ _ _ _
      | exact impl_Two.mono _ _ _ _
      | exact spec_DrawTwo.mono _ _
      | exact spec_Two.mono _ _ _ _
      | exact LeO.none _
      | refine LeO.ite ?_ ?_
      | refine LeO.bind ?_ (fun _ => ?_)
set_option maxHeartbeats 8000000 in
set_option maxRecDepth 100000 in
theorem laws_FnDivide.calls (k : Nat) (A0 : Option Addr) (c0 : Nat) (l0 : List Int) (r : Bool) (w : World) (hr0 : Kd.C (Kd.int .u8) w A0 l0.length l0) (hc0 : l0.length ≤ c0) (h : laws_FnDivide.f k l0 = some r) (hT : r = true) :
    Calls Try.prog 14 #[.slice A0 l0.length c0] w fun e w' => e = .returned (.bool r) ∧ Below w.heap.size w w' := by
  have HT := Aside0.mk hT
  clear hT
  have HR0 := Aside0.mk hr0
  have HC0 := Aside0.mk hc0
  clear hr0 hc0
  have HB := Aside0.mk (Below.refl w.heap.size w)
  have H : ((laws_big.f l0).bind fun t229 => (if t229 = true then (some true) else ((spec_DrawTwo.f k l0).bind fun bt230 => ((impl_Two.f k 37 bt230.2.1 bt230.2.2).bind fun bt233 => ((impl_Two.f k 124 bt230.2.2 bt230.2.1).bind fun bt235 => ((spec_Two.f k 37 bt230.2.1 bt230.2.2).bind fun bt237 => (if bt233.2 = bt237.2 then ((impl_NumOk.f bt230.2.1).bind fun t239 => (if t239 = true then ((impl_NumOk.f bt230.2.2).bind fun t240 => (laws_FnDivide.j0 k bt230.2.1 bt230.2.2 bt233.1 bt233.2 bt235.1 bt235.2 (!t240))) else (laws_FnDivide.j0 k bt230.2.1 bt230.2.2 bt233.1 bt233.2 bt235.1 bt235.2 true))) else (some false)))))))) = some r := h
  clear h
  replace H := Option.bind_eq_some_iff.mp H
  obtain ⟨t229, A20, H⟩ := H
  replace H : (if t229 = true then (some true) else ((spec_DrawTwo.f k l0).bind fun bt230 => ((impl_Two.f k 37 bt230.2.1 bt230.2.2).bind fun bt233 => ((impl_Two.f k 124 bt230.2.2 bt230.2.1).bind fun bt235 => ((spec_Two.f k 37 bt230.2.1 bt230.2.2).bind fun bt237 => (if bt233.2 = bt237.2 then ((impl_NumOk.f bt230.2.1).bind fun t239 => (if t239 = true then ((impl_NumOk.f bt230.2.2).bind fun t240 => (laws_FnDivide.j0 k bt230.2.1 bt230.2.2 bt233.1 bt233.2 bt235.1 bt235.2 (!t240))) else (laws_FnDivide.j0 k bt230.2.1 bt230.2.2 bt233.1 bt233.2 bt235.1 bt235.2 true))) else (some false))))))) = some r := H
  have A2 := Aside0.mk A20
  clear A20
  by_cases c3 : t229 = true
  · subst c3
    have H1 : (some true) = some r := by rw [if_pos rfl] at H; exact H
    clear H
    have H := H1
    clear H1
    obtain rfl := Option.some.inj H
    go_enter Try.func14, Try.ntmps14
    go_wp2_with (first | ((with_reducible refine gate_callee (f := 15) rfl ?_); refine goesL_ (some 13) rfl rfl Try.func15 (by kernel_rfl) rfl #[.slice A0 l0.length c0] rfl (by (try simp only [List.map_toArray, List.map_cons, List.map_nil]); first | done | rfl | (simp only [List.length_drop, List.length_take]; rfl)) ?_; (with_reducible refine (laws_big.calls _ _ l0 true _ ?side1 ?side2 A2.out).mono ?_); (case side1 => repeat (first | exact HR0.out | (with_reducible refine Kd.C_alloc ?_ _) | (with_reducible refine Kd.C_drewN ?_ _) | (with_reducible refine Kd.C_drew ?_))); (case side2 => exact HC0.out); rintro e w' ⟨rfl, ⟨nd, rfl⟩⟩; refine ⟨_, rfl, ?_⟩))
    go_ret
    exact ⟨by first | rfl | (simp [errW_none, errW_some] <;> rfl) | (simp [*, errW_none, errW_some] <;> rfl), by repeat (first | (with_reducible first | exact HB.out | apply below_alloc | apply pw_below_drewN | apply below_drew1) | exact HB.out)⟩
  · replace c3 := Bool.eq_false_iff.mpr c3
    subst c3
    have H1 : ((spec_DrawTwo.f k l0).bind fun bt230 => ((impl_Two.f k 37 bt230.2.1 bt230.2.2).bind fun bt233 => ((impl_Two.f k 124 bt230.2.2 bt230.2.1).bind fun bt235 => ((spec_Two.f k 37 bt230.2.1 bt230.2.2).bind fun bt237 => (if bt233.2 = bt237.2 then ((impl_NumOk.f bt230.2.1).bind fun t239 => (if t239 = true then ((impl_NumOk.f bt230.2.2).bind fun t240 => (laws_FnDivide.j0 k bt230.2.1 bt230.2.2 bt233.1 bt233.2 bt235.1 bt235.2 (!t240))) else (laws_FnDivide.j0 k bt230.2.1 bt230.2.2 bt233.1 bt233.2 bt235.1 bt235.2 true))) else (some false)))))) = some r := by rw [if_neg (show ¬ (false = true) by decide)] at H; exact H
    clear H
    have H := H1
    clear H1
    replace H := Option.bind_eq_some_iff.mp H
    obtain ⟨⟨t230, t231, t232⟩, A40, H⟩ := H
    replace H : ((impl_Two.f k 37 t231 t232).bind fun bt233 => ((impl_Two.f k 124 t232 t231).bind fun bt235 => ((spec_Two.f k 37 t231 t232).bind fun bt237 => (if bt233.2 = bt237.2 then ((impl_NumOk.f t231).bind fun t239 => (if t239 = true then ((impl_NumOk.f t232).bind fun t240 => (laws_FnDivide.j0 k t231 t232 bt233.1 bt233.2 bt235.1 bt235.2 (!t240))) else (laws_FnDivide.j0 k t231 t232 bt233.1 bt233.2 bt235.1 bt235.2 true))) else (some false))))) = some r := H
    have A4 := Aside0.mk A40
    clear A40
    replace H := Option.bind_eq_some_iff.mp H
    obtain ⟨⟨t233, t234⟩, A50, H⟩ := H
    replace H : ((impl_Two.f k 124 t232 t231).bind fun bt235 => ((spec_Two.f k 37 t231 t232).bind fun bt237 => (if t234 = bt237.2 then ((impl_NumOk.f t231).bind fun t239 => (if t239 = true then ((impl_NumOk.f t232).bind fun t240 => (laws_FnDivide.j0 k t231 t232 t233 t234 bt235.1 bt235.2 (!t240))) else (laws_FnDivide.j0 k t231 t232 t233 t234 bt235.1 bt235.2 true))) else (some false)))) = some r := H
    have A5 := Aside0.mk A50
    clear A50
    replace H := Option.bind_eq_some_iff.mp H
    obtain ⟨⟨t235, t236⟩, A60, H⟩ := H
    replace H : ((spec_Two.f k 37 t231 t232).bind fun bt237 => (if t234 = bt237.2 then ((impl_NumOk.f t231).bind fun t239 => (if t239 = true then ((impl_NumOk.f t232).bind fun t240 => (laws_FnDivide.j0 k t231 t232 t233 t234 t235 t236 (!t240))) else (laws_FnDivide.j0 k t231 t232 t233 t234 t235 t236 true))) else (some false))) = some r := H
    have A6 := Aside0.mk A60
    clear A60
    replace H := Option.bind_eq_some_iff.mp H
    obtain ⟨⟨t237, t238⟩, A70, H⟩ := H
    replace H : (if t234 = t238 then ((impl_NumOk.f t231).bind fun t239 => (if t239 = true then ((impl_NumOk.f t232).bind fun t240 => (laws_FnDivide.j0 k t231 t232 t233 t234 t235 t236 (!t240))) else (laws_FnDivide.j0 k t231 t232 t233 t234 t235 t236 true))) else (some false)) = some r := H
    have A7 := Aside0.mk A70
    clear A70
    by_cases c8 : t234 = t238
    · rw [if_pos c8] at H
      have c8b0 : (t234 == t238) = true := beq_iff_eq.mpr c8
      have c8b1 : (t234 != t238) = false := bne_eq_false_iff_eq.mpr c8
      clear c8
      have HC9 := Aside0.mk H
      clear H
      go_enter Try.func14, Try.ntmps14
      go_upto_region 9 with (first | ((with_reducible refine gate_callee (f := 15) rfl ?_); refine goesL_ (some 13) rfl rfl Try.func15 (by kernel_rfl) rfl #[.slice A0 l0.length c0] rfl (by (try simp only [List.map_toArray, List.map_cons, List.map_nil]); first | done | rfl | (simp only [List.length_drop, List.length_take]; rfl)) ?_; (with_reducible refine (laws_big.calls _ _ l0 false _ ?side1 ?side2 A2.out).mono ?_); (case side1 => repeat (first | exact HR0.out | (with_reducible refine Kd.C_alloc ?_ _) | (with_reducible refine Kd.C_drewN ?_ _) | (with_reducible refine Kd.C_drew ?_))); (case side2 => exact HC0.out); rintro e w' ⟨rfl, ⟨nd, rfl⟩⟩; refine ⟨_, rfl, ?_⟩) | ((with_reducible refine gate_callee (f := 67) rfl ?_); refine goesL_ (some 16) rfl rfl Try.func67 (by kernel_rfl) rfl #[.slice A0 l0.length c0] rfl (by (try simp only [List.map_toArray, List.map_cons, List.map_nil]); first | done | rfl | (simp only [List.length_drop, List.length_take]; rfl)) ?_; (with_reducible refine (spec_DrawTwo.calls k _ _ l0 t230 t231 t232 _ ?side1 ?side2 A4.out).mono ?_); (case side1 => repeat (first | exact HR0.out | (with_reducible refine Kd.C_alloc ?_ _) | (with_reducible refine Kd.C_drewN ?_ _) | (with_reducible refine Kd.C_drew ?_))); (case side2 => exact HC0.out); rintro e w10 ⟨rfl, hb⟩; refine ⟨_, rfl, ?_⟩; have n0_ := Aside0.mk (below_step (by repeat (first | (with_reducible first | exact HB.out | apply below_alloc | apply pw_below_drewN | apply below_drew1) | exact HB.out)) hb); clear HB; have HB := n0_; clear n0_; (try clear hb); (try clear hb2); (try clear hk); (try clear hi)) | ((with_reducible refine gate_callee (f := 22) rfl ?_); refine goesL_ (some 23) rfl rfl Try.func22 (by kernel_rfl) rfl #[.int .i64 37, .int .i64 t231, .int .i64 t232] rfl (by (try simp only [List.map_toArray, List.map_cons, List.map_nil]); first | done | rfl | (simp only [List.length_drop, List.length_take]; rfl)) ?_; (with_reducible refine (impl_Two.calls k 37 t231 t232 t233 t234 _ A5.out).mono ?_); rintro e w11 ⟨rfl, hb⟩; refine ⟨_, rfl, ?_⟩; have n0_ := Aside0.mk (below_step (by repeat (first | (with_reducible first | exact HB.out | apply below_alloc | apply pw_below_drewN | apply below_drew1) | exact HB.out)) hb); clear HB; have HB := n0_; clear n0_; (try clear hb); (try clear hb2); (try clear hk); (try clear hi)) | ((with_reducible refine gate_callee (f := 22) rfl ?_); refine goesL_ (some 29) rfl rfl Try.func22 (by kernel_rfl) rfl #[.int .i64 124, .int .i64 t232, .int .i64 t231] rfl (by (try simp only [List.map_toArray, List.map_cons, List.map_nil]); first | done | rfl | (simp only [List.length_drop, List.length_take]; rfl)) ?_; (with_reducible refine (impl_Two.calls k 124 t232 t231 t235 t236 _ A6.out).mono ?_); rintro e w12 ⟨rfl, hb⟩; refine ⟨_, rfl, ?_⟩; have n0_ := Aside0.mk (below_step (by repeat (first | (with_reducible first | exact HB.out | apply below_alloc | apply pw_below_drewN | apply below_drew1) | exact HB.out)) hb); clear HB; have HB := n0_; clear n0_; (try clear hb); (try clear hb2); (try clear hk); (try clear hi)) | ((with_reducible refine gate_callee (f := 68) rfl ?_); refine goesL_ (some 35) rfl rfl Try.func68 (by kernel_rfl) rfl #[.int .i64 37, .int .i64 t231, .int .i64 t232] rfl (by (try simp only [List.map_toArray, List.map_cons, List.map_nil]); first | done | rfl | (simp only [List.length_drop, List.length_take]; rfl)) ?_; (with_reducible refine (spec_Two.calls k 37 t231 t232 t237 t238 _ A7.out).mono ?_); rintro e w' ⟨rfl, ⟨nd, rfl⟩⟩; refine ⟨_, rfl, ?_⟩))
      (try simp only [Act.put, List.setIfInBounds_toArray, List.set_cons_zero, List.set_cons_succ])
      go_cut [48] (fun v48 wc => ∃ (kq : Nat) (x48_8 : Bool), v48 = .bool x48_8 ∧ Aside0 (laws_FnDivide.j0 kq t231 t232 t233 t234 t235 t236 x48_8 = some r) ∧ Aside0 (kq ≤ k) ∧ Aside0 (Below w.heap.size w wc))
      case first =>
        have H := HC9.out
        clear HC9
        replace H := Option.bind_eq_some_iff.mp H
        obtain ⟨t239, A130, H⟩ := H
        replace H : (if t239 = true then ((impl_NumOk.f t232).bind fun t240 => (laws_FnDivide.j0 k t231 t232 t233 t234 t235 t236 (!t240))) else (laws_FnDivide.j0 k t231 t232 t233 t234 t235 t236 true)) = some r := H
        have A13 := Aside0.mk A130
        clear A130
        by_cases c14 : t239 = true
        · subst c14
          have H1 : ((impl_NumOk.f t232).bind fun t240 => (laws_FnDivide.j0 k t231 t232 t233 t234 t235 t236 (!t240))) = some r := by rw [if_pos rfl] at H; exact H
          clear H
          have H := H1
          clear H1
          replace H := Option.bind_eq_some_iff.mp H
          obtain ⟨t240, A150, H⟩ := H
          replace H : (laws_FnDivide.j0 k t231 t232 t233 t234 t235 t236 (!t240)) = some r := H
          have A15 := Aside0.mk A150
          clear A150
          have H' := Aside0.mk H
          clear H
          go_wp2_with (first | ((with_reducible refine gate_callee (f := 57) rfl ?_); refine goesL_ (some 42) rfl rfl Try.func57 (by kernel_rfl) rfl #[.int .i64 t231] rfl (by (try simp only [List.map_toArray, List.map_cons, List.map_nil]); first | done | rfl | (simp only [List.length_drop, List.length_take]; rfl)) ?_; (with_reducible refine (impl_NumOk.calls t231 true _ A13.out).mono ?_); rintro e w' ⟨rfl, ⟨nd, rfl⟩⟩; refine ⟨_, rfl, ?_⟩) | (go_at_call 57; (repeat rw [i64_w]); (with_reducible refine (impl_NumOk.calls t232 t240 _ A15.out).mono ?_); rintro e w' ⟨rfl, ⟨nd, rfl⟩⟩))
          go_meet
          case rel => exact ⟨_, (!t240), (by first | rfl | (simp; done) | (simp [*]; done)), H', ⟨by first | omega | exact Nat.le_refl _⟩, ⟨by repeat (first | (with_reducible first | exact HB.out | apply below_alloc | apply pw_below_drewN | apply below_drew1) | exact HB.out)⟩⟩
        · replace c14 := Bool.eq_false_iff.mpr c14
          subst c14
          have H1 : (laws_FnDivide.j0 k t231 t232 t233 t234 t235 t236 true) = some r := by rw [if_neg (show ¬ (false = true) by decide)] at H; exact H
          clear H
          have H := H1
          clear H1
          have H' := Aside0.mk H
          clear H
          go_wp2_with (first | ((with_reducible refine gate_callee (f := 57) rfl ?_); refine goesL_ (some 42) rfl rfl Try.func57 (by kernel_rfl) rfl #[.int .i64 t231] rfl (by (try simp only [List.map_toArray, List.map_cons, List.map_nil]); first | done | rfl | (simp only [List.length_drop, List.length_take]; rfl)) ?_; (with_reducible refine (impl_NumOk.calls t231 false _ A13.out).mono ?_); rintro e w' ⟨rfl, ⟨nd, rfl⟩⟩; refine ⟨_, rfl, ?_⟩))
          go_meet
          case rel => exact ⟨_, (true), (by first | rfl | (simp; done) | (simp [*]; done)), H', ⟨by first | omega | exact Nat.le_refl _⟩, ⟨by repeat (first | (with_reducible first | exact HB.out | apply below_alloc | apply pw_below_drewN | apply below_drew1) | exact HB.out)⟩⟩
      case rest =>
        clear HC9
        try clear c1
        try clear c2
        try clear p2
        try clear c3
        try clear c5
        try clear c6
        try clear c8
        try clear c8b0
        try clear c8b1
        try clear c14
        try clear c15
        obtain ⟨kq, x48_8, rfl, HA, HJ8, HB⟩ := hcut
        cases kq with
        | zero => exact absurd HA.out (by simp [laws_FnDivide.j0])
        | succ kj8 =>
          have H := HA.out
          clear HA
          simp only [laws_FnDivide.j0] at H
          by_cases c16 : x48_8 = true
          · subst c16
            have H1 : (if t234 = 1 then (some (t236 == 1)) else (some false)) = some r := by rw [if_pos rfl] at H; exact H
            clear H
            have H := H1
            clear H1
            by_cases c17 : t234 = 1
            · rw [if_pos c17] at H
              have c17b0 : (t234 == 1) = true := beq_iff_eq.mpr c17
              have c17b1 : (t234 != 1) = false := bne_eq_false_iff_eq.mpr c17
              clear c17
              obtain rfl := Option.some.inj H
              go_wp2
              go_ret
              exact ⟨by first | rfl | (simp [errW_none, errW_some] <;> rfl) | (simp [*, errW_none, errW_some] <;> rfl), by repeat (first | (with_reducible first | exact HB.out | apply below_alloc | apply pw_below_drewN | apply below_drew1) | exact HB.out)⟩
            · rw [if_neg c17] at H
              have c17b0 : (t234 == 1) = false := beq_eq_false_iff_ne.mpr c17
              have c17b1 : (t234 != 1) = true := bne_iff_ne.mpr c17
              obtain rfl := Option.some.inj H
              exact absurd HT.out (by decide)
          · replace c16 := Bool.eq_false_iff.mpr c16
            subst c16
            have H1 : (if t232 = 0 then (if t234 = 2 then (if t236 = 0 then (some (t235 == t231)) else (some false)) else (some false)) else (if t234 = 0 then (if t236 = 0 then (if t231 = (wrap64 ((wrap64 (t233 * t232)) + t235)) then (if t232 > 0 then (if t235 ≥ 0 then (if t235 < t232 then (some true) else (if t232 < 0 then (if t235 ≤ 0 then (some (decide (t235 > t232))) else (some false)) else (some false))) else (if t232 < 0 then (if t235 ≤ 0 then (some (decide (t235 > t232))) else (some false)) else (some false))) else (if t232 < 0 then (if t235 ≤ 0 then (some (decide (t235 > t232))) else (some false)) else (some false))) else (some false)) else (some false)) else (some false))) = some r := by rw [if_neg (show ¬ (false = true) by decide)] at H; exact H
            clear H
            have H := H1
            clear H1
            by_cases c18 : t232 = 0
            · rw [if_pos c18] at H
              have c18b0 : (t232 == 0) = true := beq_iff_eq.mpr c18
              have c18b1 : (t232 != 0) = false := bne_eq_false_iff_eq.mpr c18
              clear c18
              by_cases c19 : t234 = 2
              · rw [if_pos c19] at H
                have c19b0 : (t234 == 2) = true := beq_iff_eq.mpr c19
                have c19b1 : (t234 != 2) = false := bne_eq_false_iff_eq.mpr c19
                clear c19
                by_cases c20 : t236 = 0
                · rw [if_pos c20] at H
                  have c20b0 : (t236 == 0) = true := beq_iff_eq.mpr c20
                  have c20b1 : (t236 != 0) = false := bne_eq_false_iff_eq.mpr c20
                  clear c20
                  obtain rfl := Option.some.inj H
                  go_wp2
                  go_ret
                  exact ⟨by first | rfl | (simp [errW_none, errW_some] <;> rfl) | (simp [*, errW_none, errW_some] <;> rfl), by repeat (first | (with_reducible first | exact HB.out | apply below_alloc | apply pw_below_drewN | apply below_drew1) | exact HB.out)⟩
                · rw [if_neg c20] at H
                  have c20b0 : (t236 == 0) = false := beq_eq_false_iff_ne.mpr c20
                  have c20b1 : (t236 != 0) = true := bne_iff_ne.mpr c20
                  obtain rfl := Option.some.inj H
                  exact absurd HT.out (by decide)
              · rw [if_neg c19] at H
                have c19b0 : (t234 == 2) = false := beq_eq_false_iff_ne.mpr c19
                have c19b1 : (t234 != 2) = true := bne_iff_ne.mpr c19
                obtain rfl := Option.some.inj H
                exact absurd HT.out (by decide)
            · rw [if_neg c18] at H
              have c18b0 : (t232 == 0) = false := beq_eq_false_iff_ne.mpr c18
              have c18b1 : (t232 != 0) = true := bne_iff_ne.mpr c18
              by_cases c21 : t234 = 0
              · rw [if_pos c21] at H
                have c21b0 : (t234 == 0) = true := beq_iff_eq.mpr c21
                have c21b1 : (t234 != 0) = false := bne_eq_false_iff_eq.mpr c21
                clear c21
                by_cases c22 : t236 = 0
                · rw [if_pos c22] at H
                  have c22b0 : (t236 == 0) = true := beq_iff_eq.mpr c22
                  have c22b1 : (t236 != 0) = false := bne_eq_false_iff_eq.mpr c22
                  clear c22
                  by_cases c23 : t231 = (wrap64 ((wrap64 (t233 * t232)) + t235))
                  · rw [if_pos c23] at H
                    have c23b0 : (t231 == (wrap64 ((wrap64 (t233 * t232)) + t235))) = true := beq_iff_eq.mpr c23
                    have c23b1 : (t231 != (wrap64 ((wrap64 (t233 * t232)) + t235))) = false := bne_eq_false_iff_eq.mpr c23
                    clear c23
                    by_cases c24 : t232 > 0
                    · rw [if_pos c24] at H
                      have c24b0 : decide (0 < t232) = true := decide_eq_true c24
                      clear c24
                      by_cases c25 : t235 ≥ 0
                      · rw [if_pos c25] at H
                        have c25b0 : decide (0 ≤ t235) = true := decide_eq_true c25
                        clear c25
                        by_cases c26 : t235 < t232
                        · rw [if_pos c26] at H
                          have c26b0 : decide (t235 < t232) = true := decide_eq_true c26
                          clear c26
                          obtain rfl := Option.some.inj H
                          go_wp2
                          go_ret
                          exact ⟨by first | rfl | (simp [errW_none, errW_some] <;> rfl) | (simp [*, errW_none, errW_some] <;> rfl), by repeat (first | (with_reducible first | exact HB.out | apply below_alloc | apply pw_below_drewN | apply below_drew1) | exact HB.out)⟩
                        · rw [if_neg c26] at H
                          have c26b0 : decide (t235 < t232) = false := decide_eq_false c26
                          clear c26
                          by_cases c27 : t232 < 0
                          · rw [if_pos c27] at H
                            have c27b0 : decide (t232 < 0) = true := decide_eq_true c27
                            clear c27
                            by_cases c28 : t235 ≤ 0
                            · rw [if_pos c28] at H
                              have c28b0 : decide (t235 ≤ 0) = true := decide_eq_true c28
                              clear c28
                              obtain rfl := Option.some.inj H
                              go_wp2
                              go_ret
                              exact ⟨by first | rfl | (simp [errW_none, errW_some] <;> rfl) | (simp [*, errW_none, errW_some] <;> rfl), by repeat (first | (with_reducible first | exact HB.out | apply below_alloc | apply pw_below_drewN | apply below_drew1) | exact HB.out)⟩
                            · rw [if_neg c28] at H
                              have c28b0 : decide (t235 ≤ 0) = false := decide_eq_false c28
                              clear c28
                              obtain rfl := Option.some.inj H
                              exact absurd HT.out (by decide)
                          · rw [if_neg c27] at H
                            have c27b0 : decide (t232 < 0) = false := decide_eq_false c27
                            clear c27
                            obtain rfl := Option.some.inj H
                            exact absurd HT.out (by decide)
                      · rw [if_neg c25] at H
                        have c25b0 : decide (0 ≤ t235) = false := decide_eq_false c25
                        clear c25
                        by_cases c29 : t232 < 0
                        · rw [if_pos c29] at H
                          have c29b0 : decide (t232 < 0) = true := decide_eq_true c29
                          clear c29
                          by_cases c30 : t235 ≤ 0
                          · rw [if_pos c30] at H
                            have c30b0 : decide (t235 ≤ 0) = true := decide_eq_true c30
                            clear c30
                            obtain rfl := Option.some.inj H
                            go_wp2
                            go_ret
                            exact ⟨by first | rfl | (simp [errW_none, errW_some] <;> rfl) | (simp [*, errW_none, errW_some] <;> rfl), by repeat (first | (with_reducible first | exact HB.out | apply below_alloc | apply pw_below_drewN | apply below_drew1) | exact HB.out)⟩
                          · rw [if_neg c30] at H
                            have c30b0 : decide (t235 ≤ 0) = false := decide_eq_false c30
                            clear c30
                            obtain rfl := Option.some.inj H
                            exact absurd HT.out (by decide)
                        · rw [if_neg c29] at H
                          have c29b0 : decide (t232 < 0) = false := decide_eq_false c29
                          clear c29
                          obtain rfl := Option.some.inj H
                          exact absurd HT.out (by decide)
                    · rw [if_neg c24] at H
                      have c24b0 : decide (0 < t232) = false := decide_eq_false c24
                      clear c24
                      by_cases c31 : t232 < 0
                      · rw [if_pos c31] at H
                        have c31b0 : decide (t232 < 0) = true := decide_eq_true c31
                        clear c31
                        by_cases c32 : t235 ≤ 0
                        · rw [if_pos c32] at H
                          have c32b0 : decide (t235 ≤ 0) = true := decide_eq_true c32
                          clear c32
                          obtain rfl := Option.some.inj H
                          go_wp2
                          go_ret
                          exact ⟨by first | rfl | (simp [errW_none, errW_some] <;> rfl) | (simp [*, errW_none, errW_some] <;> rfl), by repeat (first | (with_reducible first | exact HB.out | apply below_alloc | apply pw_below_drewN | apply below_drew1) | exact HB.out)⟩
                        · rw [if_neg c32] at H
                          have c32b0 : decide (t235 ≤ 0) = false := decide_eq_false c32
                          clear c32
                          obtain rfl := Option.some.inj H
                          exact absurd HT.out (by decide)
                      · rw [if_neg c31] at H
                        have c31b0 : decide (t232 < 0) = false := decide_eq_false c31
                        clear c31
                        obtain rfl := Option.some.inj H
                        exact absurd HT.out (by decide)
                  · rw [if_neg c23] at H
                    have c23b0 : (t231 == (wrap64 ((wrap64 (t233 * t232)) + t235))) = false := beq_eq_false_iff_ne.mpr c23
                    have c23b1 : (t231 != (wrap64 ((wrap64 (t233 * t232)) + t235))) = true := bne_iff_ne.mpr c23
                    obtain rfl := Option.some.inj H
                    exact absurd HT.out (by decide)
                · rw [if_neg c22] at H
                  have c22b0 : (t236 == 0) = false := beq_eq_false_iff_ne.mpr c22
                  have c22b1 : (t236 != 0) = true := bne_iff_ne.mpr c22
                  obtain rfl := Option.some.inj H
                  exact absurd HT.out (by decide)
              · rw [if_neg c21] at H
                have c21b0 : (t234 == 0) = false := beq_eq_false_iff_ne.mpr c21
                have c21b1 : (t234 != 0) = true := bne_iff_ne.mpr c21
                obtain rfl := Option.some.inj H
                exact absurd HT.out (by decide)
    · rw [if_neg c8] at H
      have c8b0 : (t234 == t238) = false := beq_eq_false_iff_ne.mpr c8
      have c8b1 : (t234 != t238) = true := bne_iff_ne.mpr c8
      obtain rfl := Option.some.inj H
      exact absurd HT.out (by decide)

/-- THE ONE PURE STATEMENT of laws_FnDivide: yours. -/
def laws_FnDivide.Pure : Prop := ∀ (l0 : List Int), l0.length ≤ maxLen → l0.length * 1 ≤ 140737488351232 → (∀ x ∈ l0, (Lit.int .u8 x).wf = true) → ∃ k, laws_FnDivide.f k l0 = some true
theorem laws_FnDivide.walk (P : laws_FnDivide.Pure) (a0 : Option Addr) (len0 cap0 : Nat) (z0 : List Int) (w : World) (w0 : (a0 = none ∧ len0 = 0 ∧ cap0 = 0 ∧ z0 = []) ∨ ∃ x, a0 = some x ∧ len0 ≤ cap0 ∧ cap0 ≤ maxLen ∧ z0.length = cap0 ∧ (∀ i, i < z0.length → w.cell? (x.add i) = some (.int .u8 (z0.getD i 0))) ∧ ∀ n ∈ z0, (Lit.int .u8 n).wf = true) (y0 : len0 * 1 ≤ 140737488351232) :
    Calls Try.prog 14 #[.slice a0 len0 cap0] w fun e w' => e = .returned (.bool true) ∧ Below w.heap.size w w' := by
  obtain ⟨l0, rfl, hr0, hm0, hw0, hc0⟩ := ReadsInt.ofRowC w0
  obtain ⟨k, h⟩ := P l0 hm0 y0 hw0
  refine (laws_FnDivide.calls k _ _ l0 true w (Kd.C_of_reads (d := (0 : Int)) (h1 := fun _ => rfl) hr0) hc0 h rfl).mono ?_
  rintro e w' ⟨rfl, hd⟩
  exact ⟨rfl, hd⟩

end Go.Proofs.Ytlaikodjcjfeiaa.PFnDivide
