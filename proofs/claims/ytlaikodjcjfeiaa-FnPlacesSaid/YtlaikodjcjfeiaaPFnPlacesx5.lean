/- The walk of what a law reaches, for the law's row: written by a program of this session; it has no condition of its own. -/
import Derived.Test.YtlaikodjcjfeiaaPFnPlacesx0
import Derived.Test.YtlaikodjcjfeiaaPFnPlacesx1
import Derived.Test.YtlaikodjcjfeiaaPFnPlacesx2
import Derived.Test.YtlaikodjcjfeiaaPFnPlacesx3
import Derived.Test.YtlaikodjcjfeiaaPFnPlacesx4
namespace Go.Proofs.Ytlaikodjcjfeiaa.PFnPlaces
open Go.RowKit Go.Proofs.YtlaikodjcjfeiaaW.PrintWords Go.Proofs.YtlaikodjcjfeiaaW.PrintLast Go.Proofs.YtlaikodjcjfeiaaW.PrintMore
attribute [local go_sem] max2_int min2_int max_two min_two max_three min_three max_four min_four   -- for this text's walks alone
set_option linter.unusedVariables false
set_option linter.unusedSimpArgs false

/-! ### laws_FnPlaces: function 9 -/
mutual
def laws_FnPlaces.j0 : Nat → List Int → List Int → Int → List Int → Bool → Option (Bool)
  | 0, _, _, _, _, _ => none
  | k + 1, x0, x3, x4, x5, x32 => if x32 = true then (some false) else ((impl_SizeOf.f k x3).bind fun t302 => (if t302 < 0 then (laws_FnPlaces.j1 k x0 x3 x4 x5 true) else (if x4 < 0 then (laws_FnPlaces.j1 k x0 x3 x4 x5 true) else (laws_FnPlaces.j1 k x0 x3 x4 x5 (decide (x4 ≥ t302))))))
def laws_FnPlaces.j1 : Nat → List Int → List Int → Int → List Int → Bool → Option (Bool)
  | 0, _, _, _, _, _ => none
  | k + 1, x0, x3, x4, x5, x45 => if x45 = true then (some ((x5.length : Int) == 0)) else ((spec_DrawPlaceOf.f k x0).bind fun bt303 => ((impl_PlaceOf.f k bt303.1 bt303.2).bind fun t309 => ((spec_PlaceOf.f k bt303.1 bt303.2).bind fun t310 => (if t309 = t310 then (if t309 ≥ 0 then ((impl_IndexOf.f k bt303.1 t309).bind fun t311 => ((laws_sameInts.f k t311 bt303.2).bind fun t314 => (laws_FnPlaces.j2 k x3 x4 x5 (!t314)))) else (laws_FnPlaces.j2 k x3 x4 x5 false)) else (laws_FnPlaces.j2 k x3 x4 x5 true)))))
def laws_FnPlaces.j2 : Nat → List Int → Int → List Int → Bool → Option (Bool)
  | 0, _, _, _, _ => none
  | k + 1, x3, x4, x5, x73 => if x73 = true then (some false) else ((impl_PlaceOf.f k x3 x5).bind fun t315 => (if t315 = x4 then (if (x5.length : Int) = (x3.length : Int) then ((impl_ShapeOk.f k x3).bind fun t316 => (if t316 = true then ((impl_ShapeSame.f k x3 x3).bind fun t317 => (some t317)) else (some false))) else (some false)) else (some false)))
end
def laws_FnPlaces.f (k : Nat) (l0 : List Int) : Option (Bool) := (laws_big.f l0).bind fun t288 => (if t288 = true then (some true) else ((spec_DrawIndexOf.f k l0).bind fun bt289 => ((impl_IndexOf.f k bt289.1 bt289.2).bind fun t293 => ((spec_IndexOf.f k bt289.1 bt289.2).bind fun t296 => ((laws_sameInts.f k t293 t296).bind fun t299 => (if t299 = true then ((impl_SizeOf.f k bt289.1).bind fun t300 => ((spec_SizeOf.f k bt289.1).bind fun t301 => (laws_FnPlaces.j0 k l0 bt289.1 bt289.2 t293 (t300 != t301)))) else (laws_FnPlaces.j0 k l0 bt289.1 bt289.2 t293 true)))))))
theorem laws_FnPlaces.mono_l : ∀ k, (∀ y0 y1 y2 y3 y4, LeO (laws_FnPlaces.j0 k y0 y1 y2 y3 y4) (laws_FnPlaces.j0 (k + 1) y0 y1 y2 y3 y4)) ∧ (∀ y0 y1 y2 y3 y4, LeO (laws_FnPlaces.j1 k y0 y1 y2 y3 y4) (laws_FnPlaces.j1 (k + 1) y0 y1 y2 y3 y4)) ∧ (∀ y0 y1 y2 y3, LeO (laws_FnPlaces.j2 k y0 y1 y2 y3) (laws_FnPlaces.j2 (k + 1) y0 y1 y2 y3))
  | 0 => ⟨fun _ _ _ _ _ r h => by simp [laws_FnPlaces.j0] at h, fun _ _ _ _ _ r h => by simp [laws_FnPlaces.j1] at h, fun _ _ _ _ r h => by simp [laws_FnPlaces.j2] at h⟩
  | k + 1 => by
    obtain ⟨ih0, ih1, ih2⟩ := laws_FnPlaces.mono_l k
    refine ⟨?_, ?_, ?_⟩
    · intro y0 y1 y2 y3 y4
      unfold laws_FnPlaces.j0
      repeat' first
      | (with_reducible exact ih0 _ _ _ _ _)
      | (with_reducible exact ih1 _ _ _ _ _)
      | (with_reducible exact ih2 _ _ _ _)
      | (with_reducible exact impl_IndexOf.mono _ _ _)
      | (with_reducible exact impl_PlaceOf.mono _ _ _)
      | (with_reducible exact impl_ShapeOk.mono _ _)
      | (with_reducible exact impl_ShapeSame.mono _ _ _)
      | (with_reducible exact impl_SizeOf.mono _ _)
      | (with_reducible exact laws_sameInts.mono _ _ _)
      | (with_reducible exact spec_DrawIndexOf.mono _ _)
      | (with_reducible exact spec_DrawPlaceOf.mono _ _)
      | (with_reducible exact spec_IndexOf.mono _ _ _)
      | (with_reducible exact spec_PlaceOf.mono _ _ _)
      | (with_reducible exact spec_SizeOf.mono _ _)
      | (with_reducible exact LeO.refl _)
      | (with_reducible exact LeO.none _)
      | (with_reducible refine LeO.ite ?_ ?_)
      | (with_reducible refine LeO.bind ?_ (fun _ => ?_))
      | exact ih0 _ _ _ _ _
      | exact ih1 _ _ _ _ _
      | exact ih2 _ _ _ _
      | exact impl_IndexOf.mono _ _ _
      | exact impl_PlaceOf.mono _ _ _
      | exact impl_ShapeOk.mono _ _
      | exact impl_ShapeSame.mono _ _ _
      | exact impl_SizeOf.mono _ _
      | exact laws_sameInts.mono _ _ _
      | exact spec_DrawIndexOf.mono _ _
      | exact spec_DrawPlaceOf.mono _ _
      | exact spec_IndexOf.mono _ _ _
      | exact spec_PlaceOf.mono _ _ _
      | exact spec_SizeOf.mono _ _
      | exact LeO.none _
      | refine LeO.ite ?_ ?_
      | refine LeO.bind ?_ (fun _ => ?_)
    · intro y0 y1 y2 y3 y4
      unfold laws_FnPlaces.j1
      repeat' first
      | (with_reducible exact ih0 _ _ _ _ _)
      | (with_reducible exact ih1 _ _ _ _ _)
      | (with_reducible exact ih2 _ _ _ _)
      | (with_reducible exact impl_IndexOf.mono _ _ _)
      | (with_reducible exact impl_PlaceOf.mono _ _ _)
      | (with_reducible exact impl_ShapeOk.mono _ _)
      | (with_reducible exact impl_ShapeSame.mono _ _ _)
      | (with_reducible exact impl_SizeOf.mono _ _)
      | (with_reducible exact laws_sameInts.mono _ _ _)
      | (with_reducible exact spec_DrawIndexOf.mono _ _)
      | (with_reducible exact spec_DrawPlaceOf.mono _ _)
      | (with_reducible exact spec_IndexOf.mono _ _ _)
      | (with_reducible exact spec_PlaceOf.mono _ _ _)
      | (with_reducible exact spec_SizeOf.mono _ _)
      | (with_reducible exact LeO.refl _)
      | (with_reducible exact LeO.none _)
      | (with_reducible refine LeO.ite ?_ ?_)
      | (with_reducible refine LeO.bind ?_ (fun _ => ?_))
      | exact ih0 _ _ _ _ _
      | exact ih1 _ _ _ _ _
      | exact ih2 _ _ _ _
      | exact impl_IndexOf.mono _ _ _
      | exact impl_PlaceOf.mono _ _ _
      | exact impl_ShapeOk.mono _ _
      | exact impl_ShapeSame.mono _ _ _
      | exact impl_SizeOf.mono _ _
      | exact laws_sameInts.mono _ _ _
      | exact spec_DrawIndexOf.mono _ _
      | exact spec_DrawPlaceOf.mono _ _
      | exact spec_IndexOf.mono _ _ _
      | exact spec_PlaceOf.mono _ _ _
      | exact spec_SizeOf.mono _ _
      | exact LeO.none _
      | refine LeO.ite ?_ ?_
      | refine LeO.bind ?_ (fun _ => ?_)
    · intro y0 y1 y2 y3
      unfold laws_FnPlaces.j2
      repeat' first
      | (with_reducible exact ih0 _ _ _ _ _)
      | (with_reducible exact ih1 _ _ _ _ _)
      | (with_reducible exact ih2 _ _ _ _)
      | (with_reducible exact impl_IndexOf.mono _ _ _)
      | (with_reducible exact impl_PlaceOf.mono _ _ _)
      | (with_reducible exact impl_ShapeOk.mono _ _)
      | (with_reducible exact impl_ShapeSame.mono _ _ _)
      | (with_reducible exact impl_SizeOf.mono _ _)
      | (with_reducible exact laws_sameInts.mono _ _ _)
      | (with_reducible exact spec_DrawIndexOf.mono _ _)
      | (with_reducible exact spec_DrawPlaceOf.mono _ _)
      | (with_reducible exact spec_IndexOf.mono _ _ _)
      | (with_reducible exact spec_PlaceOf.mono _ _ _)
      | (with_reducible exact spec_SizeOf.mono _ _)
      | (with_reducible exact LeO.refl _)
      | (with_reducible exact LeO.none _)
      | (with_reducible refine LeO.ite ?_ ?_)
      | (with_reducible refine LeO.bind ?_ (fun _ => ?_))
      | exact ih0 _ _ _ _ _
      | exact ih1 _ _ _ _ _
      | exact ih2 _ _ _ _
      | exact impl_IndexOf.mono _ _ _
      | exact impl_PlaceOf.mono _ _ _
      | exact impl_ShapeOk.mono _ _
      | exact impl_ShapeSame.mono _ _ _
      | exact impl_SizeOf.mono _ _
      | exact laws_sameInts.mono _ _ _
      | exact spec_DrawIndexOf.mono _ _
      | exact spec_DrawPlaceOf.mono _ _
      | exact spec_IndexOf.mono _ _ _
      | exact spec_PlaceOf.mono _ _ _
      | exact spec_SizeOf.mono _ _
      | exact LeO.none _
      | refine LeO.ite ?_ ?_
      | refine LeO.bind ?_ (fun _ => ?_)
theorem laws_FnPlaces.mono : ∀ a0 k, LeO (laws_FnPlaces.f k a0) (laws_FnPlaces.f (k + 1) a0) := by
  intro a0 k
  obtain ⟨ih0, ih1, ih2⟩ := laws_FnPlaces.mono_l k
  unfold laws_FnPlaces.f
  repeat' first
      | (with_reducible exact ih0 _ _ _ _ _)
      | (with_reducible exact ih1 _ _ _ _ _)
      | (with_reducible exact ih2 _ _ _ _)
      | (with_reducible exact impl_IndexOf.mono _ _ _)
      | (with_reducible exact impl_PlaceOf.mono _ _ _)
      | (with_reducible exact impl_ShapeOk.mono _ _)
      | (with_reducible exact impl_ShapeSame.mono _ _ _)
      | (with_reducible exact impl_SizeOf.mono _ _)
      | (with_reducible exact laws_sameInts.mono _ _ _)
      | (with_reducible exact spec_DrawIndexOf.mono _ _)
      | (with_reducible exact spec_DrawPlaceOf.mono _ _)
      | (with_reducible exact spec_IndexOf.mono _ _ _)
      | (with_reducible exact spec_PlaceOf.mono _ _ _)
      | (with_reducible exact spec_SizeOf.mono _ _)
      | (with_reducible exact LeO.refl _)
      | (with_reducible exact LeO.none _)
      | (with_reducible refine LeO.ite ?_ ?_)
      | (with_reducible refine LeO.bind ?_ (fun _ => ?_))
      | exact ih0 _ _ _ _ _
      | exact ih1 _ _ _ _ _
      | exact ih2 _ _ _ _
      | exact impl_IndexOf.mono _ _ _
      | exact impl_PlaceOf.mono _ _ _
      | exact impl_ShapeOk.mono _ _
      | exact impl_ShapeSame.mono _ _ _
      | exact impl_SizeOf.mono _ _
      | exact laws_sameInts.mono _ _ _
      | exact spec_DrawIndexOf.mono _ _
      | exact spec_DrawPlaceOf.mono _ _
      | exact spec_IndexOf.mono _ _ _
      | exact spec_PlaceOf.mono _ _ _
      | exact spec_SizeOf.mono _ _
      | exact LeO.none _
      | refine LeO.ite ?_ ?_
      | refine LeO.bind ?_ (fun _ => ?_)
set_option maxHeartbeats 8000000 in
set_option maxRecDepth 100000 in
theorem laws_FnPlaces.calls (k : Nat) (A0 : Option Addr) (c0 : Nat) (l0 : List Int) (r : Bool) (w : World) (hr0 : Kd.C (Kd.int .u8) w A0 l0.length l0) (hc0 : l0.length ≤ c0) (h : laws_FnPlaces.f k l0 = some r) (hT : r = true) :
    Calls Try.prog 9 #[.slice A0 l0.length c0] w fun e w' => e = .returned (.bool r) ∧ Below w.heap.size w w' := by
  have HT := Aside0.mk hT
  clear hT
  have HR0 := Aside0.mk hr0
  have HC0 := Aside0.mk hc0
  clear hr0 hc0
  have HB := Aside0.mk (Below.refl w.heap.size w)
  have H : ((laws_big.f l0).bind fun t288 => (if t288 = true then (some true) else ((spec_DrawIndexOf.f k l0).bind fun bt289 => ((impl_IndexOf.f k bt289.1 bt289.2).bind fun t293 => ((spec_IndexOf.f k bt289.1 bt289.2).bind fun t296 => ((laws_sameInts.f k t293 t296).bind fun t299 => (if t299 = true then ((impl_SizeOf.f k bt289.1).bind fun t300 => ((spec_SizeOf.f k bt289.1).bind fun t301 => (laws_FnPlaces.j0 k l0 bt289.1 bt289.2 t293 (t300 != t301)))) else (laws_FnPlaces.j0 k l0 bt289.1 bt289.2 t293 true)))))))) = some r := h
  clear h
  replace H := Option.bind_eq_some_iff.mp H
  obtain ⟨t288, A20, H⟩ := H
  replace H : (if t288 = true then (some true) else ((spec_DrawIndexOf.f k l0).bind fun bt289 => ((impl_IndexOf.f k bt289.1 bt289.2).bind fun t293 => ((spec_IndexOf.f k bt289.1 bt289.2).bind fun t296 => ((laws_sameInts.f k t293 t296).bind fun t299 => (if t299 = true then ((impl_SizeOf.f k bt289.1).bind fun t300 => ((spec_SizeOf.f k bt289.1).bind fun t301 => (laws_FnPlaces.j0 k l0 bt289.1 bt289.2 t293 (t300 != t301)))) else (laws_FnPlaces.j0 k l0 bt289.1 bt289.2 t293 true))))))) = some r := H
  have A2 := Aside0.mk A20
  clear A20
  by_cases c3 : t288 = true
  · subst c3
    have H1 : (some true) = some r := by rw [if_pos rfl] at H; exact H
    clear H
    have H := H1
    clear H1
    obtain rfl := Option.some.inj H
    go_enter Try.func9, Try.ntmps9
    go_wp2_with (first | ((with_reducible refine gate_callee (f := 15) rfl ?_); refine goesL_ (some 11) rfl rfl Try.func15 (by kernel_rfl) rfl #[.slice A0 l0.length c0] rfl (by (try simp only [List.map_toArray, List.map_cons, List.map_nil]); first | done | rfl | (simp only [List.length_drop, List.length_take]; rfl)) ?_; (with_reducible refine (laws_big.calls _ _ l0 true _ ?side1 ?side2 A2.out).mono ?_); (case side1 => repeat (first | exact HR0.out | (with_reducible refine Kd.C_alloc ?_ _) | (with_reducible refine Kd.C_drewN ?_ _) | (with_reducible refine Kd.C_drew ?_))); (case side2 => exact HC0.out); rintro e w' ⟨rfl, ⟨nd, rfl⟩⟩; refine ⟨_, rfl, ?_⟩))
    go_ret
    exact ⟨by first | rfl | (simp [errW_none, errW_some] <;> rfl) | (simp [*, errW_none, errW_some] <;> rfl), by repeat (first | (with_reducible first | exact HB.out | apply below_alloc | apply pw_below_drewN | apply below_drew1) | exact HB.out)⟩
  · replace c3 := Bool.eq_false_iff.mpr c3
    subst c3
    have H1 : ((spec_DrawIndexOf.f k l0).bind fun bt289 => ((impl_IndexOf.f k bt289.1 bt289.2).bind fun t293 => ((spec_IndexOf.f k bt289.1 bt289.2).bind fun t296 => ((laws_sameInts.f k t293 t296).bind fun t299 => (if t299 = true then ((impl_SizeOf.f k bt289.1).bind fun t300 => ((spec_SizeOf.f k bt289.1).bind fun t301 => (laws_FnPlaces.j0 k l0 bt289.1 bt289.2 t293 (t300 != t301)))) else (laws_FnPlaces.j0 k l0 bt289.1 bt289.2 t293 true)))))) = some r := by rw [if_neg (show ¬ (false = true) by decide)] at H; exact H
    clear H
    have H := H1
    clear H1
    replace H := Option.bind_eq_some_iff.mp H
    obtain ⟨⟨t289, t290⟩, A40, H⟩ := H
    replace H : ((impl_IndexOf.f k t289 t290).bind fun t293 => ((spec_IndexOf.f k t289 t290).bind fun t296 => ((laws_sameInts.f k t293 t296).bind fun t299 => (if t299 = true then ((impl_SizeOf.f k t289).bind fun t300 => ((spec_SizeOf.f k t289).bind fun t301 => (laws_FnPlaces.j0 k l0 t289 t290 t293 (t300 != t301)))) else (laws_FnPlaces.j0 k l0 t289 t290 t293 true))))) = some r := H
    have A4 := Aside0.mk A40
    clear A40
    replace H := Option.bind_eq_some_iff.mp H
    obtain ⟨t293, A50, H⟩ := H
    replace H : ((spec_IndexOf.f k t289 t290).bind fun t296 => ((laws_sameInts.f k t293 t296).bind fun t299 => (if t299 = true then ((impl_SizeOf.f k t289).bind fun t300 => ((spec_SizeOf.f k t289).bind fun t301 => (laws_FnPlaces.j0 k l0 t289 t290 t293 (t300 != t301)))) else (laws_FnPlaces.j0 k l0 t289 t290 t293 true)))) = some r := H
    have A5 := Aside0.mk A50
    clear A50
    have HC6 := Aside0.mk H
    clear H
    go_enter Try.func9, Try.ntmps9
    go_upto_region 5 with (first | ((with_reducible refine gate_callee (f := 15) rfl ?_); refine goesL_ (some 11) rfl rfl Try.func15 (by kernel_rfl) rfl #[.slice A0 l0.length c0] rfl (by (try simp only [List.map_toArray, List.map_cons, List.map_nil]); first | done | rfl | (simp only [List.length_drop, List.length_take]; rfl)) ?_; (with_reducible refine (laws_big.calls _ _ l0 false _ ?side1 ?side2 A2.out).mono ?_); (case side1 => repeat (first | exact HR0.out | (with_reducible refine Kd.C_alloc ?_ _) | (with_reducible refine Kd.C_drewN ?_ _) | (with_reducible refine Kd.C_drew ?_))); (case side2 => exact HC0.out); rintro e w' ⟨rfl, ⟨nd, rfl⟩⟩; refine ⟨_, rfl, ?_⟩) | ((with_reducible refine gate_callee (f := 41) rfl ?_); refine goesL_ (some 14) rfl rfl Try.func41 (by kernel_rfl) rfl #[.slice A0 l0.length c0] rfl (by (try simp only [List.map_toArray, List.map_cons, List.map_nil]); first | done | rfl | (simp only [List.length_drop, List.length_take]; rfl)) ?_; (with_reducible refine (spec_DrawIndexOf.calls k _ _ l0 t289 t290 _ ?side1 ?side2 A4.out).mono ?_); (case side1 => repeat (first | exact HR0.out | (with_reducible refine Kd.C_alloc ?_ _) | (with_reducible refine Kd.C_drewN ?_ _) | (with_reducible refine Kd.C_drew ?_))); (case side2 => exact HC0.out); rintro e w7 ⟨v291, rfl, ho0, hb⟩; refine ⟨_, rfl, ?_⟩; have n0_ := Aside0.mk (Kd.R_lower ho0 (below_size (by repeat (first | (with_reducible first | exact HB.out | apply below_alloc | apply pw_below_drewN | apply below_drew1) | exact HB.out)))); have n1_ := Aside0.mk (below_step (by repeat (first | (with_reducible first | exact HB.out | apply below_alloc | apply pw_below_drewN | apply below_drew1) | exact HB.out)) hb); clear HB; have HO292 := n0_; have HB := n1_; clear n0_ n1_; (try clear hb); (try clear hb2); (try clear hk); (try clear hi); (try clear ho0); obtain ⟨Ao8, co8, eo8⟩ := Kd.R_slice HO292.out; subst eo8) | ((with_reducible refine gate_callee (f := 42) rfl ?_); refine goesL_ (some 19) rfl rfl Try.func42 (by kernel_rfl) rfl #[.slice Ao8 t289.length co8, .int .i64 t290] rfl (by (try simp only [List.map_toArray, List.map_cons, List.map_nil]); first | done | rfl | (simp only [List.length_drop, List.length_take]; rfl)) ?_; (with_reducible refine (impl_IndexOf.calls k _ _ t289 t290 t293 _ ?side1 ?side2 A5.out).mono ?_); (case side1 => repeat (first | exact (Kd.R_reads' HO292.out).2.2 | (with_reducible refine Kd.C_alloc ?_ _) | (with_reducible refine Kd.C_drewN ?_ _) | (with_reducible refine Kd.C_drew ?_))); (case side2 => exact (Kd.R_reads' HO292.out).2.1); rintro e w9 ⟨v294, rfl, ho0, hb⟩; refine ⟨_, rfl, ?_⟩; have n0_ := Aside0.mk (Kd.R_elder' (by (with_reducible repeat (first | apply Kd.R_alloc | apply Kd.R_drewN | apply Kd.R_drew)); exact HO292.out) (Kd.R_base ho0) hb); have n1_ := Aside0.mk (Kd.R_lower (Kd.R_new' ho0 (Kd.R_lt (by (with_reducible repeat (first | apply Kd.R_alloc | apply Kd.R_drewN | apply Kd.R_drew)); exact HO292.out))) (below_size (by repeat (first | (with_reducible first | exact HB.out | apply below_alloc | apply pw_below_drewN | apply below_drew1) | exact HB.out)))); have n2_ := Aside0.mk (below_step (by repeat (first | (with_reducible first | exact HB.out | apply below_alloc | apply pw_below_drewN | apply below_drew1) | exact HB.out)) hb); clear HO292; clear HB; have HO292 := n0_; have HO295 := n1_; have HB := n2_; clear n0_ n1_ n2_; (try clear hb); (try clear hb2); (try clear hk); (try clear hi); (try clear ho0)))
    (try simp only [Act.put, List.setIfInBounds_toArray, List.set_cons_zero, List.set_cons_succ])
    go_cut [32] (fun v32 wc => ∃ (kq : Nat) (x32_5 : Bool), v32 = .bool x32_5 ∧ Aside0 (laws_FnPlaces.j0 kq l0 t289 t290 t293 x32_5 = some r) ∧ Aside0 (kq ≤ k) ∧ Aside0 (Kd.R (Kd.int .i64) 3 wc w.heap.size (fun k_ => some k_ ≠ (v294 : Value).ownBlock) (.slice Ao8 t289.length co8) t289) ∧ Aside0 (Kd.R (Kd.int .i64) 3 wc w.heap.size (fun k_ => some k_ ≠ ((.slice Ao8 t289.length co8) : Value).ownBlock) v294 t293) ∧ Aside0 (Below w.heap.size w wc))
    case first =>
      have H := HC6.out
      clear HC6
      replace H := Option.bind_eq_some_iff.mp H
      obtain ⟨t296, A100, H⟩ := H
      replace H : ((laws_sameInts.f k t293 t296).bind fun t299 => (if t299 = true then ((impl_SizeOf.f k t289).bind fun t300 => ((spec_SizeOf.f k t289).bind fun t301 => (laws_FnPlaces.j0 k l0 t289 t290 t293 (t300 != t301)))) else (laws_FnPlaces.j0 k l0 t289 t290 t293 true))) = some r := H
      have A10 := Aside0.mk A100
      clear A100
      replace H := Option.bind_eq_some_iff.mp H
      obtain ⟨t299, A110, H⟩ := H
      replace H : (if t299 = true then ((impl_SizeOf.f k t289).bind fun t300 => ((spec_SizeOf.f k t289).bind fun t301 => (laws_FnPlaces.j0 k l0 t289 t290 t293 (t300 != t301)))) else (laws_FnPlaces.j0 k l0 t289 t290 t293 true)) = some r := H
      have A11 := Aside0.mk A110
      clear A110
      by_cases c12 : t299 = true
      · subst c12
        have H1 : ((impl_SizeOf.f k t289).bind fun t300 => ((spec_SizeOf.f k t289).bind fun t301 => (laws_FnPlaces.j0 k l0 t289 t290 t293 (t300 != t301)))) = some r := by rw [if_pos rfl] at H; exact H
        clear H
        have H := H1
        clear H1
        replace H := Option.bind_eq_some_iff.mp H
        obtain ⟨t300, A130, H⟩ := H
        replace H : ((spec_SizeOf.f k t289).bind fun t301 => (laws_FnPlaces.j0 k l0 t289 t290 t293 (t300 != t301))) = some r := H
        have A13 := Aside0.mk A130
        clear A130
        replace H := Option.bind_eq_some_iff.mp H
        obtain ⟨t301, A140, H⟩ := H
        replace H : (laws_FnPlaces.j0 k l0 t289 t290 t293 (t300 != t301)) = some r := H
        have A14 := Aside0.mk A140
        clear A140
        have H' := Aside0.mk H
        clear H
        go_wp2_with (first | ((with_reducible refine gate_callee (f := 43) rfl ?_); refine goesL_ (some 23) rfl rfl Try.func43 (by kernel_rfl) rfl #[.slice Ao8 t289.length co8, .int .i64 t290] rfl (by (try simp only [List.map_toArray, List.map_cons, List.map_nil]); first | done | rfl | (simp only [List.length_drop, List.length_take]; rfl)) ?_; (with_reducible refine (spec_IndexOf.calls k _ _ t289 t290 t296 _ ?side1 ?side2 A10.out).mono ?_); (case side1 => repeat (first | exact (Kd.R_reads' HO292.out).2.2 | (with_reducible refine Kd.C_alloc ?_ _) | (with_reducible refine Kd.C_drewN ?_ _) | (with_reducible refine Kd.C_drew ?_))); (case side2 => exact (Kd.R_reads' HO292.out).2.1); rintro e w15 ⟨v297, rfl, ho0, hb⟩; refine ⟨_, rfl, ?_⟩; have n0_ := Aside0.mk (Kd.R_elder' (by (with_reducible repeat (first | apply Kd.R_alloc | apply Kd.R_drewN | apply Kd.R_drew)); exact HO292.out) (Kd.R_base ho0) hb); have n1_ := Aside0.mk (Kd.R_elder' (by (with_reducible repeat (first | apply Kd.R_alloc | apply Kd.R_drewN | apply Kd.R_drew)); exact HO295.out) (Kd.R_base ho0) hb); have n2_ := Aside0.mk (Kd.R_lower (Kd.R_new' (Kd.R_new' ho0 (Kd.R_lt (by (with_reducible repeat (first | apply Kd.R_alloc | apply Kd.R_drewN | apply Kd.R_drew)); exact HO292.out))) (Kd.R_lt (by (with_reducible repeat (first | apply Kd.R_alloc | apply Kd.R_drewN | apply Kd.R_drew)); exact HO295.out))) (below_size (by repeat (first | (with_reducible first | exact HB.out | apply below_alloc | apply pw_below_drewN | apply below_drew1) | exact HB.out)))); have n3_ := Aside0.mk (below_step (by repeat (first | (with_reducible first | exact HB.out | apply below_alloc | apply pw_below_drewN | apply below_drew1) | exact HB.out)) hb); clear HO292; clear HO295; clear HB; have HO292 := n0_; have HO295 := n1_; have HO298 := n2_; have HB := n3_; clear n0_ n1_ n2_ n3_; (try clear hb); (try clear hb2); (try clear hk); (try clear hi); (try clear ho0); obtain ⟨Ao16, co16, eo16⟩ := Kd.R_slice HO295.out; subst eo16; obtain ⟨Ao17, co17, eo17⟩ := Kd.R_slice HO298.out; subst eo17) | ((with_reducible refine gate_callee (f := 20) rfl ?_); refine goesL_ (some 24) rfl rfl Try.func20 (by kernel_rfl) rfl #[.slice Ao16 t293.length co16, .slice Ao17 t296.length co17] rfl (by (try simp only [List.map_toArray, List.map_cons, List.map_nil]); first | done | rfl | (simp only [List.length_drop, List.length_take]; rfl)) ?_; (with_reducible refine (laws_sameInts.calls k _ _ t293 _ _ t296 true _ ?side1 ?side2 ?side3 ?side4 A11.out).mono ?_); (case side1 => repeat (first | exact (Kd.R_reads' HO295.out).2.2 | (with_reducible refine Kd.C_alloc ?_ _) | (with_reducible refine Kd.C_drewN ?_ _) | (with_reducible refine Kd.C_drew ?_))); (case side2 => exact (Kd.R_reads' HO295.out).2.1); (case side3 => repeat (first | exact (Kd.R_reads' HO298.out).2.2 | (with_reducible refine Kd.C_alloc ?_ _) | (with_reducible refine Kd.C_drewN ?_ _) | (with_reducible refine Kd.C_drew ?_))); (case side4 => exact (Kd.R_reads' HO298.out).2.1); rintro e w' ⟨rfl, ⟨nd, rfl⟩⟩; refine ⟨_, rfl, ?_⟩) | (go_at_call 44; (repeat rw [i64_w]); (with_reducible refine (impl_SizeOf.calls k _ _ t289 t300 _ ?side1 ?side2 A13.out).mono ?_); (case side1 => repeat (first | exact (Kd.R_reads' HO292.out).2.2 | (with_reducible refine Kd.C_alloc ?_ _) | (with_reducible refine Kd.C_drewN ?_ _) | (with_reducible refine Kd.C_drew ?_))); (case side2 => exact (Kd.R_reads' HO292.out).2.1); rintro e w' ⟨rfl, ⟨nd, rfl⟩⟩) | (go_at_call 45; (repeat rw [i64_w]); (with_reducible refine (spec_SizeOf.calls k _ _ t289 t301 _ ?side1 ?side2 A14.out).mono ?_); (case side1 => repeat (first | exact (Kd.R_reads' HO292.out).2.2 | (with_reducible refine Kd.C_alloc ?_ _) | (with_reducible refine Kd.C_drewN ?_ _) | (with_reducible refine Kd.C_drew ?_))); (case side2 => exact (Kd.R_reads' HO292.out).2.1); rintro e w' ⟨rfl, ⟨nd, rfl⟩⟩))
        go_meet
        case rel => exact ⟨_, ((t300 != t301)), (by first | rfl | (simp; done) | (simp [*]; done)), H', ⟨by first | omega | exact Nat.le_refl _⟩, ⟨by (with_reducible repeat (first | apply Kd.R_alloc | apply Kd.R_drewN | apply Kd.R_drew)); exact Kd.R_mono HO292.out (fun _ hk => hk.1.2)⟩, ⟨by (with_reducible repeat (first | apply Kd.R_alloc | apply Kd.R_drewN | apply Kd.R_drew)); exact Kd.R_mono HO295.out (fun _ hk => hk.1.2)⟩, ⟨by repeat (first | (with_reducible first | exact HB.out | apply below_alloc | apply pw_below_drewN | apply below_drew1) | exact HB.out)⟩⟩
      · replace c12 := Bool.eq_false_iff.mpr c12
        subst c12
        have H1 : (laws_FnPlaces.j0 k l0 t289 t290 t293 true) = some r := by rw [if_neg (show ¬ (false = true) by decide)] at H; exact H
        clear H
        have H := H1
        clear H1
        have hz_ : ∀ kz, laws_FnPlaces.j0 kz l0 t289 t290 t293 true = some r → r = false := by intro kz hz; cases kz with | zero => exact absurd hz (by simp [laws_FnPlaces.j0]) | succ kz => simp only [laws_FnPlaces.j0] at hz; first | (rw [if_pos rfl] at hz; exact (Option.some.inj hz).symm) | (simp at hz; exact hz.symm) | (simp at hz; exact hz)
        exact absurd (HT.out.symm.trans (hz_ _ H)) (by decide)
    case rest =>
      clear HC6
      try clear c1
      try clear c2
      try clear p2
      try clear c3
      try clear c4
      try clear c9
      try clear c12
      try clear c15
      obtain ⟨kq, x32_5, rfl, HA, HJ5, HO_3, HO_5, HB⟩ := hcut
      cases kq with
      | zero => exact absurd HA.out (by simp [laws_FnPlaces.j0])
      | succ kj5 =>
        have H := HA.out
        clear HA
        simp only [laws_FnPlaces.j0] at H
        by_cases c18 : x32_5 = true
        · subst c18
          have H1 : (some false) = some r := by rw [if_pos rfl] at H; exact H
          clear H
          have H := H1
          clear H1
          obtain rfl := Option.some.inj H
          exact absurd HT.out (by decide)
        · replace c18 := Bool.eq_false_iff.mpr c18
          subst c18
          have H1 : ((impl_SizeOf.f kj5 t289).bind fun t302 => (if t302 < 0 then (laws_FnPlaces.j1 kj5 l0 t289 t290 t293 true) else (if t290 < 0 then (laws_FnPlaces.j1 kj5 l0 t289 t290 t293 true) else (laws_FnPlaces.j1 kj5 l0 t289 t290 t293 (decide (t290 ≥ t302)))))) = some r := by rw [if_neg (show ¬ (false = true) by decide)] at H; exact H
          clear H
          have H := H1
          clear H1
          replace H := Option.bind_eq_some_iff.mp H
          obtain ⟨t302, A190, H⟩ := H
          replace H : (if t302 < 0 then (laws_FnPlaces.j1 kj5 l0 t289 t290 t293 true) else (if t290 < 0 then (laws_FnPlaces.j1 kj5 l0 t289 t290 t293 true) else (laws_FnPlaces.j1 kj5 l0 t289 t290 t293 (decide (t290 ≥ t302))))) = some r := H
          have A19 := Aside0.mk A190
          clear A190
          have HC20 := Aside0.mk H
          clear H
          go_upto_region 8 with (first | ((with_reducible refine gate_callee (f := 44) rfl ?_); refine goesL_ (some 34) rfl rfl Try.func44 (by kernel_rfl) rfl #[.slice Ao8 t289.length co8] rfl (by (try simp only [List.map_toArray, List.map_cons, List.map_nil]); first | done | rfl | (simp only [List.length_drop, List.length_take]; rfl)) ?_; (with_reducible refine (impl_SizeOf.calls kj5 _ _ t289 t302 _ ?side1 ?side2 A19.out).mono ?_); (case side1 => repeat (first | exact (Kd.R_reads' HO_3.out).2.2 | (with_reducible refine Kd.C_alloc ?_ _) | (with_reducible refine Kd.C_drewN ?_ _) | (with_reducible refine Kd.C_drew ?_))); (case side2 => exact (Kd.R_reads' HO_3.out).2.1); rintro e w' ⟨rfl, ⟨nd, rfl⟩⟩; refine ⟨_, rfl, ?_⟩))
          (try simp only [Act.put, List.setIfInBounds_toArray, List.set_cons_zero, List.set_cons_succ])
          go_cut [45] (fun v45 wc => ∃ (kq : Nat) (x45_19 : Bool), v45 = .bool x45_19 ∧ Aside0 (laws_FnPlaces.j1 kq l0 t289 t290 t293 x45_19 = some r) ∧ Aside0 (kq ≤ kj5) ∧ Aside0 (Kd.R (Kd.int .i64) 3 wc w.heap.size (fun k_ => some k_ ≠ (v294 : Value).ownBlock) (.slice Ao8 t289.length co8) t289) ∧ Aside0 (Kd.R (Kd.int .i64) 3 wc w.heap.size (fun k_ => some k_ ≠ ((.slice Ao8 t289.length co8) : Value).ownBlock) v294 t293) ∧ Aside0 (Below w.heap.size w wc))
          case first =>
            have H := HC20.out
            clear HC20
            by_cases c21 : t302 < 0
            · rw [if_pos c21] at H
              have c21b0 : decide (t302 < 0) = true := decide_eq_true c21
              clear c21
              (first | rw [c21b0] | (simp only [i64_w, i32_w]; rw [c21b0]) | skip)
              have H' := Aside0.mk H
              clear H
              go_wp2
              go_meet
              case rel => exact ⟨_, (true), (by first | rfl | (simp; done) | (simp [*]; done)), H', ⟨by have := HJ5.out; first | omega | exact Nat.le_refl _⟩, ⟨by (with_reducible repeat (first | apply Kd.R_alloc | apply Kd.R_drewN | apply Kd.R_drew)); exact HO_3.out⟩, ⟨by (with_reducible repeat (first | apply Kd.R_alloc | apply Kd.R_drewN | apply Kd.R_drew)); exact HO_5.out⟩, ⟨by repeat (first | (with_reducible first | exact HB.out | apply below_alloc | apply pw_below_drewN | apply below_drew1) | exact HB.out)⟩⟩
            · rw [if_neg c21] at H
              have c21b0 : decide (t302 < 0) = false := decide_eq_false c21
              clear c21
              (first | rw [c21b0] | (simp only [i64_w, i32_w]; rw [c21b0]) | skip)
              by_cases c22 : t290 < 0
              · rw [if_pos c22] at H
                have c22b0 : decide (t290 < 0) = true := decide_eq_true c22
                clear c22
                have H' := Aside0.mk H
                clear H
                go_wp2
                go_meet
                case rel => exact ⟨_, (true), (by first | rfl | (simp; done) | (simp [*]; done)), H', ⟨by have := HJ5.out; first | omega | exact Nat.le_refl _⟩, ⟨by (with_reducible repeat (first | apply Kd.R_alloc | apply Kd.R_drewN | apply Kd.R_drew)); exact HO_3.out⟩, ⟨by (with_reducible repeat (first | apply Kd.R_alloc | apply Kd.R_drewN | apply Kd.R_drew)); exact HO_5.out⟩, ⟨by repeat (first | (with_reducible first | exact HB.out | apply below_alloc | apply pw_below_drewN | apply below_drew1) | exact HB.out)⟩⟩
              · rw [if_neg c22] at H
                have c22b0 : decide (t290 < 0) = false := decide_eq_false c22
                clear c22
                have H' := Aside0.mk H
                clear H
                go_wp2
                go_meet
                case rel => exact ⟨_, (decide (t290 ≥ t302)), (by first | rfl | (simp; done) | (simp [*]; done)), H', ⟨by have := HJ5.out; first | omega | exact Nat.le_refl _⟩, ⟨by (with_reducible repeat (first | apply Kd.R_alloc | apply Kd.R_drewN | apply Kd.R_drew)); exact HO_3.out⟩, ⟨by (with_reducible repeat (first | apply Kd.R_alloc | apply Kd.R_drewN | apply Kd.R_drew)); exact HO_5.out⟩, ⟨by repeat (first | (with_reducible first | exact HB.out | apply below_alloc | apply pw_below_drewN | apply below_drew1) | exact HB.out)⟩⟩
          case rest =>
            clear HC20
            try clear c1
            try clear c2
            try clear p2
            try clear c3
            try clear c4
            try clear c9
            try clear c12
            try clear c15
            try clear c18
            try clear c20
            try clear c21
            try clear c21b0
            try clear c22
            try clear c22b0
            try clear p2
            obtain ⟨kq, x45_19, rfl, HA, HJ19, HO_3, HO_5, HB⟩ := hcut
            cases kq with
            | zero => exact absurd HA.out (by simp [laws_FnPlaces.j1])
            | succ kj19 =>
              have H := HA.out
              clear HA
              simp only [laws_FnPlaces.j1] at H
              by_cases c23 : x45_19 = true
              · subst c23
                have H1 : (some ((t293.length : Int) == 0)) = some r := by rw [if_pos rfl] at H; exact H
                clear H
                have H := H1
                clear H1
                obtain rfl := Option.some.inj H
                obtain ⟨Ao24, co24, eo24⟩ := Kd.R_slice HO_5.out
                subst eo24
                go_wp2
                go_ret
                exact ⟨by first | rfl | (simp [errW_none, errW_some] <;> rfl) | (simp [*, errW_none, errW_some] <;> rfl), by repeat (first | (with_reducible first | exact HB.out | apply below_alloc | apply pw_below_drewN | apply below_drew1) | exact HB.out)⟩
              · replace c23 := Bool.eq_false_iff.mpr c23
                subst c23
                have H1 : ((spec_DrawPlaceOf.f kj19 l0).bind fun bt303 => ((impl_PlaceOf.f kj19 bt303.1 bt303.2).bind fun t309 => ((spec_PlaceOf.f kj19 bt303.1 bt303.2).bind fun t310 => (if t309 = t310 then (if t309 ≥ 0 then ((impl_IndexOf.f kj19 bt303.1 t309).bind fun t311 => ((laws_sameInts.f kj19 t311 bt303.2).bind fun t314 => (laws_FnPlaces.j2 kj19 t289 t290 t293 (!t314)))) else (laws_FnPlaces.j2 kj19 t289 t290 t293 false)) else (laws_FnPlaces.j2 kj19 t289 t290 t293 true))))) = some r := by rw [if_neg (show ¬ (false = true) by decide)] at H; exact H
                clear H
                have H := H1
                clear H1
                replace H := Option.bind_eq_some_iff.mp H
                obtain ⟨⟨t303, t304⟩, A250, H⟩ := H
                replace H : ((impl_PlaceOf.f kj19 t303 t304).bind fun t309 => ((spec_PlaceOf.f kj19 t303 t304).bind fun t310 => (if t309 = t310 then (if t309 ≥ 0 then ((impl_IndexOf.f kj19 t303 t309).bind fun t311 => ((laws_sameInts.f kj19 t311 t304).bind fun t314 => (laws_FnPlaces.j2 kj19 t289 t290 t293 (!t314)))) else (laws_FnPlaces.j2 kj19 t289 t290 t293 false)) else (laws_FnPlaces.j2 kj19 t289 t290 t293 true)))) = some r := H
                have A25 := Aside0.mk A250
                clear A250
                replace H := Option.bind_eq_some_iff.mp H
                obtain ⟨t309, A260, H⟩ := H
                replace H : ((spec_PlaceOf.f kj19 t303 t304).bind fun t310 => (if t309 = t310 then (if t309 ≥ 0 then ((impl_IndexOf.f kj19 t303 t309).bind fun t311 => ((laws_sameInts.f kj19 t311 t304).bind fun t314 => (laws_FnPlaces.j2 kj19 t289 t290 t293 (!t314)))) else (laws_FnPlaces.j2 kj19 t289 t290 t293 false)) else (laws_FnPlaces.j2 kj19 t289 t290 t293 true))) = some r := H
                have A26 := Aside0.mk A260
                clear A260
                have HC27 := Aside0.mk H
                clear H
                go_upto_region 12 with (first | ((with_reducible refine gate_callee (f := 46) rfl ?_); refine goesL_ (some 51) rfl rfl Try.func46 (by kernel_rfl) rfl #[.slice A0 l0.length c0] rfl (by (try simp only [List.map_toArray, List.map_cons, List.map_nil]); first | done | rfl | (simp only [List.length_drop, List.length_take]; rfl)) ?_; (with_reducible refine (spec_DrawPlaceOf.calls kj19 _ _ l0 t303 t304 _ ?side1 ?side2 A25.out).mono ?_); (case side1 => repeat (first | exact (Kd.C_below HR0.out HB.out) | (with_reducible refine Kd.C_alloc ?_ _) | (with_reducible refine Kd.C_drewN ?_ _) | (with_reducible refine Kd.C_drew ?_))); (case side2 => exact HC0.out); rintro e w28 ⟨v305, v307, rfl, ho0, ho1, hb⟩; refine ⟨_, rfl, ?_⟩; have n0_ := Aside0.mk (Kd.R_mono (Kd.R_told (Kd.R_told (Kd.R_old (by (with_reducible repeat (first | apply Kd.R_alloc | apply Kd.R_drewN | apply Kd.R_drew)); exact HO_3.out) hb) (Kd.R_base ho0)) (Kd.R_base ho1)) (fun _ h_ => h_.1)); have n1_ := Aside0.mk (Kd.R_mono (Kd.R_told (Kd.R_told (Kd.R_old (by (with_reducible repeat (first | apply Kd.R_alloc | apply Kd.R_drewN | apply Kd.R_drew)); exact HO_5.out) hb) (Kd.R_base ho0)) (Kd.R_base ho1)) (fun _ h_ => h_.1)); have n2_ := Aside0.mk (Kd.R_lower (Kd.R_new' (Kd.R_new' ho0 (Kd.R_lt (by (with_reducible repeat (first | apply Kd.R_alloc | apply Kd.R_drewN | apply Kd.R_drew)); exact HO_3.out))) (Kd.R_lt (by (with_reducible repeat (first | apply Kd.R_alloc | apply Kd.R_drewN | apply Kd.R_drew)); exact HO_5.out))) (below_size (by repeat (first | (with_reducible first | exact HB.out | apply below_alloc | apply pw_below_drewN | apply below_drew1) | exact HB.out)))); have n3_ := Aside0.mk (Kd.R_lower (Kd.R_new' (Kd.R_new' ho1 (Kd.R_lt (by (with_reducible repeat (first | apply Kd.R_alloc | apply Kd.R_drewN | apply Kd.R_drew)); exact HO_3.out))) (Kd.R_lt (by (with_reducible repeat (first | apply Kd.R_alloc | apply Kd.R_drewN | apply Kd.R_drew)); exact HO_5.out))) (below_size (by repeat (first | (with_reducible first | exact HB.out | apply below_alloc | apply pw_below_drewN | apply below_drew1) | exact HB.out)))); have n4_ := Aside0.mk (below_step (by repeat (first | (with_reducible first | exact HB.out | apply below_alloc | apply pw_below_drewN | apply below_drew1) | exact HB.out)) hb); clear HO_3; clear HO_5; clear HB; have HO_3 := n0_; have HO_5 := n1_; have HO306 := n2_; have HO308 := n3_; have HB := n4_; clear n0_ n1_ n2_ n3_ n4_; (try clear hb); (try clear hb2); (try clear hk); (try clear hi); (try clear ho0); (try clear ho1); obtain ⟨Ao29, co29, eo29⟩ := Kd.R_slice HO306.out; subst eo29; obtain ⟨Ao30, co30, eo30⟩ := Kd.R_slice HO308.out; subst eo30) | ((with_reducible refine gate_callee (f := 47) rfl ?_); refine goesL_ (some 56) rfl rfl Try.func47 (by kernel_rfl) rfl #[.slice Ao29 t303.length co29, .slice Ao30 t304.length co30] rfl (by (try simp only [List.map_toArray, List.map_cons, List.map_nil]); first | done | rfl | (simp only [List.length_drop, List.length_take]; rfl)) ?_; (with_reducible refine (impl_PlaceOf.calls kj19 _ _ t303 _ _ t304 t309 _ ?side1 ?side2 ?side3 ?side4 A26.out).mono ?_); (case side1 => repeat (first | exact (Kd.R_reads' HO306.out).2.2 | (with_reducible refine Kd.C_alloc ?_ _) | (with_reducible refine Kd.C_drewN ?_ _) | (with_reducible refine Kd.C_drew ?_))); (case side2 => exact (Kd.R_reads' HO306.out).2.1); (case side3 => repeat (first | exact (Kd.R_reads' HO308.out).2.2 | (with_reducible refine Kd.C_alloc ?_ _) | (with_reducible refine Kd.C_drewN ?_ _) | (with_reducible refine Kd.C_drew ?_))); (case side4 => exact (Kd.R_reads' HO308.out).2.1); rintro e w' ⟨rfl, ⟨nd, rfl⟩⟩; refine ⟨_, rfl, ?_⟩))
                (try simp only [Act.put, List.setIfInBounds_toArray, List.set_cons_zero, List.set_cons_succ])
                go_cut [73] (fun v73 wc => ∃ (kq : Nat) (x73_26 : Bool), v73 = .bool x73_26 ∧ Aside0 (laws_FnPlaces.j2 kq t289 t290 t293 x73_26 = some r) ∧ Aside0 (kq ≤ kj19) ∧ Aside0 (Kd.R (Kd.int .i64) 3 wc w.heap.size (fun k_ => some k_ ≠ (v294 : Value).ownBlock) (.slice Ao8 t289.length co8) t289) ∧ Aside0 (Kd.R (Kd.int .i64) 3 wc w.heap.size (fun k_ => some k_ ≠ ((.slice Ao8 t289.length co8) : Value).ownBlock) v294 t293) ∧ Aside0 (Below w.heap.size w wc))
                case first =>
                  have H := HC27.out
                  clear HC27
                  replace H := Option.bind_eq_some_iff.mp H
                  obtain ⟨t310, A310, H⟩ := H
                  replace H : (if t309 = t310 then (if t309 ≥ 0 then ((impl_IndexOf.f kj19 t303 t309).bind fun t311 => ((laws_sameInts.f kj19 t311 t304).bind fun t314 => (laws_FnPlaces.j2 kj19 t289 t290 t293 (!t314)))) else (laws_FnPlaces.j2 kj19 t289 t290 t293 false)) else (laws_FnPlaces.j2 kj19 t289 t290 t293 true)) = some r := H
                  have A31 := Aside0.mk A310
                  clear A310
                  by_cases c32 : t309 = t310
                  · rw [if_pos c32] at H
                    have c32b0 : (t309 == t310) = true := beq_iff_eq.mpr c32
                    have c32b1 : (t309 != t310) = false := bne_eq_false_iff_eq.mpr c32
                    clear c32
                    (first | rw [c32b0] | (simp only [i64_w, i32_w]; rw [c32b0]) | skip)
                    by_cases c33 : t309 ≥ 0
                    · rw [if_pos c33] at H
                      have c33b0 : decide (0 ≤ t309) = true := decide_eq_true c33
                      clear c33
                      replace H := Option.bind_eq_some_iff.mp H
                      obtain ⟨t311, A340, H⟩ := H
                      replace H : ((laws_sameInts.f kj19 t311 t304).bind fun t314 => (laws_FnPlaces.j2 kj19 t289 t290 t293 (!t314))) = some r := H
                      have A34 := Aside0.mk A340
                      clear A340
                      replace H := Option.bind_eq_some_iff.mp H
                      obtain ⟨t314, A350, H⟩ := H
                      replace H : (laws_FnPlaces.j2 kj19 t289 t290 t293 (!t314)) = some r := H
                      have A35 := Aside0.mk A350
                      clear A350
                      have H' := Aside0.mk H
                      clear H
                      go_wp2_with (first | ((with_reducible refine gate_callee (f := 48) rfl ?_); refine goesL_ (some 60) rfl rfl Try.func48 (by kernel_rfl) rfl #[.slice Ao29 t303.length co29, .slice Ao30 t304.length co30] rfl (by (try simp only [List.map_toArray, List.map_cons, List.map_nil]); first | done | rfl | (simp only [List.length_drop, List.length_take]; rfl)) ?_; (with_reducible refine (spec_PlaceOf.calls kj19 _ _ t303 _ _ t304 t310 _ ?side1 ?side2 ?side3 ?side4 A31.out).mono ?_); (case side1 => repeat (first | exact (Kd.R_reads' HO306.out).2.2 | (with_reducible refine Kd.C_alloc ?_ _) | (with_reducible refine Kd.C_drewN ?_ _) | (with_reducible refine Kd.C_drew ?_))); (case side2 => exact (Kd.R_reads' HO306.out).2.1); (case side3 => repeat (first | exact (Kd.R_reads' HO308.out).2.2 | (with_reducible refine Kd.C_alloc ?_ _) | (with_reducible refine Kd.C_drewN ?_ _) | (with_reducible refine Kd.C_drew ?_))); (case side4 => exact (Kd.R_reads' HO308.out).2.1); rintro e w' ⟨rfl, ⟨nd, rfl⟩⟩; refine ⟨_, rfl, ?_⟩) | (go_at_call 42; (repeat rw [i64_w]); (with_reducible refine (impl_IndexOf.calls kj19 _ _ t303 t309 t311 _ ?side1 ?side2 A34.out).mono ?_); (case side1 => repeat (first | exact (Kd.R_reads' HO306.out).2.2 | (with_reducible refine Kd.C_alloc ?_ _) | (with_reducible refine Kd.C_drewN ?_ _) | (with_reducible refine Kd.C_drew ?_))); (case side2 => exact (Kd.R_reads' HO306.out).2.1); rintro e w36 ⟨v312, rfl, ho0, hb⟩; have n0_ := Aside0.mk (Kd.R_elder' (by (with_reducible repeat (first | apply Kd.R_alloc | apply Kd.R_drewN | apply Kd.R_drew)); exact HO_3.out) (Kd.R_base ho0) hb); have n1_ := Aside0.mk (Kd.R_elder' (by (with_reducible repeat (first | apply Kd.R_alloc | apply Kd.R_drewN | apply Kd.R_drew)); exact HO_5.out) (Kd.R_base ho0) hb); have n2_ := Aside0.mk (Kd.R_elder' (by (with_reducible repeat (first | apply Kd.R_alloc | apply Kd.R_drewN | apply Kd.R_drew)); exact HO306.out) (Kd.R_base ho0) hb); have n3_ := Aside0.mk (Kd.R_elder' (by (with_reducible repeat (first | apply Kd.R_alloc | apply Kd.R_drewN | apply Kd.R_drew)); exact HO308.out) (Kd.R_base ho0) hb); have n4_ := Aside0.mk (Kd.R_lower (Kd.R_new' (Kd.R_new' (Kd.R_new' (Kd.R_new' ho0 (Kd.R_lt (by (with_reducible repeat (first | apply Kd.R_alloc | apply Kd.R_drewN | apply Kd.R_drew)); exact HO_3.out))) (Kd.R_lt (by (with_reducible repeat (first | apply Kd.R_alloc | apply Kd.R_drewN | apply Kd.R_drew)); exact HO_5.out))) (Kd.R_lt (by (with_reducible repeat (first | apply Kd.R_alloc | apply Kd.R_drewN | apply Kd.R_drew)); exact HO306.out))) (Kd.R_lt (by (with_reducible repeat (first | apply Kd.R_alloc | apply Kd.R_drewN | apply Kd.R_drew)); exact HO308.out))) (below_size (by repeat (first | (with_reducible first | exact HB.out | apply below_alloc | apply pw_below_drewN | apply below_drew1) | exact HB.out)))); have n5_ := Aside0.mk (below_step (by repeat (first | (with_reducible first | exact HB.out | apply below_alloc | apply pw_below_drewN | apply below_drew1) | exact HB.out)) hb); clear HO_3; clear HO_5; clear HO306; clear HO308; clear HB; have HO_3 := n0_; have HO_5 := n1_; have HO306 := n2_; have HO308 := n3_; have HO313 := n4_; have HB := n5_; clear n0_ n1_ n2_ n3_ n4_ n5_; (try clear hb); (try clear hb2); (try clear hk); (try clear hi); (try clear ho0); obtain ⟨Ao37, co37, eo37⟩ := Kd.R_slice HO313.out; subst eo37) | (go_at_call 20; (repeat rw [i64_w]); (with_reducible refine (laws_sameInts.calls kj19 _ _ t311 _ _ t304 t314 _ ?side1 ?side2 ?side3 ?side4 A35.out).mono ?_); (case side1 => repeat (first | exact (Kd.R_reads' HO313.out).2.2 | (with_reducible refine Kd.C_alloc ?_ _) | (with_reducible refine Kd.C_drewN ?_ _) | (with_reducible refine Kd.C_drew ?_))); (case side2 => exact (Kd.R_reads' HO313.out).2.1); (case side3 => repeat (first | exact (Kd.R_reads' HO308.out).2.2 | (with_reducible refine Kd.C_alloc ?_ _) | (with_reducible refine Kd.C_drewN ?_ _) | (with_reducible refine Kd.C_drew ?_))); (case side4 => exact (Kd.R_reads' HO308.out).2.1); rintro e w' ⟨rfl, ⟨nd, rfl⟩⟩))
                      go_meet
                      case rel => exact ⟨_, (!t314), (by first | rfl | (simp; done) | (simp [*]; done)), H', ⟨by have := HJ5.out; have := HJ19.out; first | omega | exact Nat.le_refl _⟩, ⟨by (with_reducible repeat (first | apply Kd.R_alloc | apply Kd.R_drewN | apply Kd.R_drew)); exact Kd.R_mono HO_3.out (fun _ hk => hk.1.1.1)⟩, ⟨by (with_reducible repeat (first | apply Kd.R_alloc | apply Kd.R_drewN | apply Kd.R_drew)); exact Kd.R_mono HO_5.out (fun _ hk => hk.1.1.1)⟩, ⟨by repeat (first | (with_reducible first | exact HB.out | apply below_alloc | apply pw_below_drewN | apply below_drew1) | exact HB.out)⟩⟩
                    · rw [if_neg c33] at H
                      have c33b0 : decide (0 ≤ t309) = false := decide_eq_false c33
                      clear c33
                      have H' := Aside0.mk H
                      clear H
                      go_wp2_with (first | ((with_reducible refine gate_callee (f := 48) rfl ?_); refine goesL_ (some 60) rfl rfl Try.func48 (by kernel_rfl) rfl #[.slice Ao29 t303.length co29, .slice Ao30 t304.length co30] rfl (by (try simp only [List.map_toArray, List.map_cons, List.map_nil]); first | done | rfl | (simp only [List.length_drop, List.length_take]; rfl)) ?_; (with_reducible refine (spec_PlaceOf.calls kj19 _ _ t303 _ _ t304 t310 _ ?side1 ?side2 ?side3 ?side4 A31.out).mono ?_); (case side1 => repeat (first | exact (Kd.R_reads' HO306.out).2.2 | (with_reducible refine Kd.C_alloc ?_ _) | (with_reducible refine Kd.C_drewN ?_ _) | (with_reducible refine Kd.C_drew ?_))); (case side2 => exact (Kd.R_reads' HO306.out).2.1); (case side3 => repeat (first | exact (Kd.R_reads' HO308.out).2.2 | (with_reducible refine Kd.C_alloc ?_ _) | (with_reducible refine Kd.C_drewN ?_ _) | (with_reducible refine Kd.C_drew ?_))); (case side4 => exact (Kd.R_reads' HO308.out).2.1); rintro e w' ⟨rfl, ⟨nd, rfl⟩⟩; refine ⟨_, rfl, ?_⟩))
                      go_meet
                      case rel => exact ⟨_, (false), (by first | rfl | (simp; done) | (simp [*]; done)), H', ⟨by have := HJ5.out; have := HJ19.out; first | omega | exact Nat.le_refl _⟩, ⟨by (with_reducible repeat (first | apply Kd.R_alloc | apply Kd.R_drewN | apply Kd.R_drew)); exact Kd.R_mono HO_3.out (fun _ hk => hk.1.1)⟩, ⟨by (with_reducible repeat (first | apply Kd.R_alloc | apply Kd.R_drewN | apply Kd.R_drew)); exact Kd.R_mono HO_5.out (fun _ hk => hk.1.1)⟩, ⟨by repeat (first | (with_reducible first | exact HB.out | apply below_alloc | apply pw_below_drewN | apply below_drew1) | exact HB.out)⟩⟩
                  · rw [if_neg c32] at H
                    have c32b0 : (t309 == t310) = false := beq_eq_false_iff_ne.mpr c32
                    have c32b1 : (t309 != t310) = true := bne_iff_ne.mpr c32
                    (first | rw [c32b0] | (simp only [i64_w, i32_w]; rw [c32b0]) | skip)
                    have hz_ : ∀ kz, laws_FnPlaces.j2 kz t289 t290 t293 true = some r → r = false := by intro kz hz; cases kz with | zero => exact absurd hz (by simp [laws_FnPlaces.j2]) | succ kz => simp only [laws_FnPlaces.j2] at hz; first | (rw [if_pos rfl] at hz; exact (Option.some.inj hz).symm) | (simp at hz; exact hz.symm) | (simp at hz; exact hz)
                    exact absurd (HT.out.symm.trans (hz_ _ H)) (by decide)
                case rest =>
                  clear HC27
                  try clear c1
                  try clear c2
                  try clear p2
                  try clear c3
                  try clear c4
                  try clear c9
                  try clear c12
                  try clear c15
                  try clear c18
                  try clear c20
                  try clear c21
                  try clear c21b0
                  try clear c22
                  try clear c22b0
                  try clear c23
                  try clear c32
                  try clear c32b0
                  try clear c32b1
                  try clear c33
                  try clear c33b0
                  try clear p2
                  obtain ⟨kq, x73_26, rfl, HA, HJ26, HO_3, HO_5, HB⟩ := hcut
                  cases kq with
                  | zero => exact absurd HA.out (by simp [laws_FnPlaces.j2])
                  | succ kj26 =>
                    have H := HA.out
                    clear HA
                    simp only [laws_FnPlaces.j2] at H
                    by_cases c38 : x73_26 = true
                    · subst c38
                      have H1 : (some false) = some r := by rw [if_pos rfl] at H; exact H
                      clear H
                      have H := H1
                      clear H1
                      obtain rfl := Option.some.inj H
                      exact absurd HT.out (by decide)
                    · replace c38 := Bool.eq_false_iff.mpr c38
                      subst c38
                      have H1 : ((impl_PlaceOf.f kj26 t289 t293).bind fun t315 => (if t315 = t290 then (if (t293.length : Int) = (t289.length : Int) then ((impl_ShapeOk.f kj26 t289).bind fun t316 => (if t316 = true then ((impl_ShapeSame.f kj26 t289 t289).bind fun t317 => (some t317)) else (some false))) else (some false)) else (some false))) = some r := by rw [if_neg (show ¬ (false = true) by decide)] at H; exact H
                      clear H
                      have H := H1
                      clear H1
                      replace H := Option.bind_eq_some_iff.mp H
                      obtain ⟨t315, A390, H⟩ := H
                      replace H : (if t315 = t290 then (if (t293.length : Int) = (t289.length : Int) then ((impl_ShapeOk.f kj26 t289).bind fun t316 => (if t316 = true then ((impl_ShapeSame.f kj26 t289 t289).bind fun t317 => (some t317)) else (some false))) else (some false)) else (some false)) = some r := H
                      have A39 := Aside0.mk A390
                      clear A390
                      by_cases c40 : t315 = t290
                      · rw [if_pos c40] at H
                        have c40b0 : (t315 == t290) = true := beq_iff_eq.mpr c40
                        have c40b1 : (t315 != t290) = false := bne_eq_false_iff_eq.mpr c40
                        clear c40
                        by_cases c41 : (t293.length : Int) = (t289.length : Int)
                        · rw [if_pos c41] at H
                          have c41b0 : ((t293.length : Int) == (t289.length : Int)) = true := beq_iff_eq.mpr c41
                          have c41b1 : ((t293.length : Int) != (t289.length : Int)) = false := bne_eq_false_iff_eq.mpr c41
                          have c41b2 : (t293.length == t289.length) = true := by first | simpa using c41 | (simp at c41 ⊢; omega)
                          clear c41
                          replace H := Option.bind_eq_some_iff.mp H
                          obtain ⟨t316, A420, H⟩ := H
                          replace H : (if t316 = true then ((impl_ShapeSame.f kj26 t289 t289).bind fun t317 => (some t317)) else (some false)) = some r := H
                          have A42 := Aside0.mk A420
                          clear A420
                          by_cases c43 : t316 = true
                          · subst c43
                            have H1 : ((impl_ShapeSame.f kj26 t289 t289).bind fun t317 => (some t317)) = some r := by rw [if_pos rfl] at H; exact H
                            clear H
                            have H := H1
                            clear H1
                            replace H := Option.bind_eq_some_iff.mp H
                            obtain ⟨t317, A440, H⟩ := H
                            replace H : (some t317) = some r := H
                            have A44 := Aside0.mk A440
                            clear A440
                            obtain rfl := Option.some.inj H
                            obtain ⟨Ao45, co45, eo45⟩ := Kd.R_slice HO_5.out
                            subst eo45
                            go_wp2_with (first | ((with_reducible refine gate_callee (f := 47) rfl ?_); refine goesL_ (some 76) rfl rfl Try.func47 (by kernel_rfl) rfl #[.slice Ao8 t289.length co8, .slice Ao45 t293.length co45] rfl (by (try simp only [List.map_toArray, List.map_cons, List.map_nil]); first | done | rfl | (simp only [List.length_drop, List.length_take]; rfl)) ?_; (with_reducible refine (impl_PlaceOf.calls kj26 _ _ t289 _ _ t293 t315 _ ?side1 ?side2 ?side3 ?side4 A39.out).mono ?_); (case side1 => repeat (first | exact (Kd.R_reads' HO_3.out).2.2 | (with_reducible refine Kd.C_alloc ?_ _) | (with_reducible refine Kd.C_drewN ?_ _) | (with_reducible refine Kd.C_drew ?_))); (case side2 => exact (Kd.R_reads' HO_3.out).2.1); (case side3 => repeat (first | exact (Kd.R_reads' HO_5.out).2.2 | (with_reducible refine Kd.C_alloc ?_ _) | (with_reducible refine Kd.C_drewN ?_ _) | (with_reducible refine Kd.C_drew ?_))); (case side4 => exact (Kd.R_reads' HO_5.out).2.1); rintro e w' ⟨rfl, ⟨nd, rfl⟩⟩; refine ⟨_, rfl, ?_⟩) | (go_at_call 49; (repeat rw [i64_w]); (with_reducible refine (impl_ShapeOk.calls kj26 _ _ t289 true _ ?side1 ?side2 A42.out).mono ?_); (case side1 => repeat (first | exact (Kd.R_reads' HO_3.out).2.2 | (with_reducible refine Kd.C_alloc ?_ _) | (with_reducible refine Kd.C_drewN ?_ _) | (with_reducible refine Kd.C_drew ?_))); (case side2 => exact (Kd.R_reads' HO_3.out).2.1); rintro e w' ⟨rfl, ⟨nd, rfl⟩⟩) | (go_at_call 50; (repeat rw [i64_w]); (with_reducible refine (impl_ShapeSame.calls kj26 _ _ t289 _ _ t289 t317 _ ?side1 ?side2 ?side3 ?side4 A44.out).mono ?_); (case side1 => repeat (first | exact (Kd.R_reads' HO_3.out).2.2 | (with_reducible refine Kd.C_alloc ?_ _) | (with_reducible refine Kd.C_drewN ?_ _) | (with_reducible refine Kd.C_drew ?_))); (case side2 => exact (Kd.R_reads' HO_3.out).2.1); (case side3 => repeat (first | exact (Kd.R_reads' HO_3.out).2.2 | (with_reducible refine Kd.C_alloc ?_ _) | (with_reducible refine Kd.C_drewN ?_ _) | (with_reducible refine Kd.C_drew ?_))); (case side4 => exact (Kd.R_reads' HO_3.out).2.1); rintro e w' ⟨rfl, ⟨nd, rfl⟩⟩))
                            go_ret
                            exact ⟨by first | rfl | (simp [errW_none, errW_some] <;> rfl) | (simp [*, errW_none, errW_some] <;> rfl), by repeat (first | (with_reducible first | exact HB.out | apply below_alloc | apply pw_below_drewN | apply below_drew1) | exact HB.out)⟩
                          · replace c43 := Bool.eq_false_iff.mpr c43
                            subst c43
                            have H1 : (some false) = some r := by rw [if_neg (show ¬ (false = true) by decide)] at H; exact H
                            clear H
                            have H := H1
                            clear H1
                            obtain rfl := Option.some.inj H
                            exact absurd HT.out (by decide)
                        · rw [if_neg c41] at H
                          have c41b0 : ((t293.length : Int) == (t289.length : Int)) = false := beq_eq_false_iff_ne.mpr c41
                          have c41b1 : ((t293.length : Int) != (t289.length : Int)) = true := bne_iff_ne.mpr c41
                          have c41b2 : (t293.length == t289.length) = false := by first | simpa using c41 | (simp at c41 ⊢; omega)
                          obtain rfl := Option.some.inj H
                          exact absurd HT.out (by decide)
                      · rw [if_neg c40] at H
                        have c40b0 : (t315 == t290) = false := beq_eq_false_iff_ne.mpr c40
                        have c40b1 : (t315 != t290) = true := bne_iff_ne.mpr c40
                        obtain rfl := Option.some.inj H
                        exact absurd HT.out (by decide)

/-- THE ONE PURE STATEMENT of laws_FnPlaces: yours. -/
def laws_FnPlaces.Pure : Prop := ∀ (l0 : List Int), l0.length ≤ maxLen → l0.length * 1 ≤ 140737488351232 → (∀ x ∈ l0, (Lit.int .u8 x).wf = true) → ∃ k, laws_FnPlaces.f k l0 = some true
theorem laws_FnPlaces.walk (P : laws_FnPlaces.Pure) (a0 : Option Addr) (len0 cap0 : Nat) (z0 : List Int) (w : World) (w0 : (a0 = none ∧ len0 = 0 ∧ cap0 = 0 ∧ z0 = []) ∨ ∃ x, a0 = some x ∧ len0 ≤ cap0 ∧ cap0 ≤ maxLen ∧ z0.length = cap0 ∧ (∀ i, i < z0.length → w.cell? (x.add i) = some (.int .u8 (z0.getD i 0))) ∧ ∀ n ∈ z0, (Lit.int .u8 n).wf = true) (y0 : len0 * 1 ≤ 140737488351232) :
    Calls Try.prog 9 #[.slice a0 len0 cap0] w fun e w' => e = .returned (.bool true) ∧ Below w.heap.size w w' := by
  obtain ⟨l0, rfl, hr0, hm0, hw0, hc0⟩ := ReadsInt.ofRowC w0
  obtain ⟨k, h⟩ := P l0 hm0 y0 hw0
  refine (laws_FnPlaces.calls k _ _ l0 true w (Kd.C_of_reads (d := (0 : Int)) (h1 := fun _ => rfl) hr0) hc0 h rfl).mono ?_
  rintro e w' ⟨rfl, hd⟩
  exact ⟨rfl, hd⟩

end Go.Proofs.Ytlaikodjcjfeiaa.PFnPlaces
