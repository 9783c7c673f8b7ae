/- The walk of what a law reaches, for the law's row: written by a program of this session; it has no condition of its own. -/
import Derived.Test.YtlaikodjcjfeiaaPFnExactShapeOfx0
import Derived.Test.YtlaikodjcjfeiaaPFnExactShapeOfx1
import Derived.Test.YtlaikodjcjfeiaaPFnExactShapeOfx2
import Derived.Test.YtlaikodjcjfeiaaPFnExactShapeOfx3
namespace Go.Proofs.Ytlaikodjcjfeiaa.PFnExactShapeOf
open Go.RowKit Go.Proofs.YtlaikodjcjfeiaaW.PrintWords Go.Proofs.YtlaikodjcjfeiaaW.PrintLast Go.Proofs.YtlaikodjcjfeiaaW.PrintMore
attribute [local go_sem] max2_int min2_int max_two min_two max_three min_three max_four min_four   -- for this text's walks alone
set_option linter.unusedVariables false
set_option linter.unusedSimpArgs false

/-! ### laws_FnExactShapeOf: function 6 -/
mutual
def laws_FnExactShapeOf.j0 : Nat → Int → Int → Bool → List Int → List Int → List Int → List Int → List Int → List Int → List Int → List Int → Option (Bool)
  | 0, _, _, _, _, _, _, _, _, _, _, _ => none
  | k + 1, x5, x8, x40, x189000, x189001, x204000, x204001, x211000, x211001, x219000, x219001 => if x40 = true then (some false) else ((laws_toArray.f k x189000 x189001).bind fun bt220 => ((laws_eqArray.f k x211000 x211001 bt220.1 bt220.2).bind fun t226 => (if t226 = true then ((laws_markArray.f k x211000 x211001 1).bind fun bt227 => (if bt227.1 < 0 then (laws_FnExactShapeOf.j1 k x5 true x189000 x189001 x204000 x204001 x219000 x219001) else ((laws_eqArray.f k x219000 x219001 x204000 x204001).bind fun t230 => (if t230 = true then (laws_FnExactShapeOf.j1 k x5 (x8 != x5) x189000 x189001 x204000 x204001 x219000 x219001) else (laws_FnExactShapeOf.j1 k x5 true x189000 x189001 x204000 x204001 x219000 x219001))))) else (some false))))
def laws_FnExactShapeOf.j1 : Nat → Int → Bool → List Int → List Int → List Int → List Int → List Int → List Int → Option (Bool)
  | 0, _, _, _, _, _, _, _, _ => none
  | k + 1, x5, x61, x189000, x189001, x204000, x204001, x219000, x219001 => if x61 = true then (some false) else ((laws_markArray.f k x219000 x219001 1).bind fun bt231 => ((laws_heldArray.f k bt231.2.1 bt231.2.2 1).bind fun t234 => (if t234 < 0 then (some false) else (if t234 = bt231.1 then ((laws_toArray.f k x189000 x189001).bind fun bt235 => ((impl_ShapeOf.f k bt235.1 bt235.2).bind fun bt241 => ((laws_eqArray.f k bt241.1 bt241.2.1 x204000 x204001).bind fun t249 => (if t249 = true then (laws_FnExactShapeOf.j2 k bt231.1 (bt241.2.2 != x5) bt231.2.1 bt231.2.2) else (laws_FnExactShapeOf.j2 k bt231.1 true bt231.2.1 bt231.2.2))))) else (some false)))))
def laws_FnExactShapeOf.j2 : Nat → Int → Bool → List Int → List Int → Option (Bool)
  | 0, _, _, _, _ => none
  | k + 1, x10, x87, x219000, x219001 => if x87 = true then (some false) else ((laws_heldArray.f k x219000 x219001 1).bind fun t250 => (if t250 < 0 then (some false) else (if t250 = x10 then (some true) else (some false))))
end
def laws_FnExactShapeOf.f (k : Nat) (l0_0 : List Int) (l0_1 : List Int) : Option (Bool) := (laws_szArray.f l0_0 l0_1 1048576).bind fun t189 => (if t189 < 0 then (some true) else ((laws_toArray.f k l0_0 l0_1).bind fun bt190 => ((spec_ShapeOf.f k bt190.1 bt190.2).bind fun bt196 => ((laws_toArray.f k l0_0 l0_1).bind fun bt204 => ((impl_ShapeOf.f k bt204.1 bt204.2).bind fun bt211 => ((laws_eqArray.f k bt211.1 bt211.2.1 bt196.1 bt196.2.1).bind fun t219 => (if t219 = true then (laws_FnExactShapeOf.j0 k bt196.2.2 bt211.2.2 (bt211.2.2 != bt196.2.2) l0_0 l0_1 bt196.1 bt196.2.1 bt204.1 bt204.2 bt211.1 bt211.2.1) else (laws_FnExactShapeOf.j0 k bt196.2.2 bt211.2.2 true l0_0 l0_1 bt196.1 bt196.2.1 bt204.1 bt204.2 bt211.1 bt211.2.1))))))))
theorem laws_FnExactShapeOf.mono_l : ∀ k, (∀ y0 y1 y2 y3 y4 y5 y6 y7 y8 y9 y10, LeO (laws_FnExactShapeOf.j0 k y0 y1 y2 y3 y4 y5 y6 y7 y8 y9 y10) (laws_FnExactShapeOf.j0 (k + 1) y0 y1 y2 y3 y4 y5 y6 y7 y8 y9 y10)) ∧ (∀ y0 y1 y2 y3 y4 y5 y6 y7, LeO (laws_FnExactShapeOf.j1 k y0 y1 y2 y3 y4 y5 y6 y7) (laws_FnExactShapeOf.j1 (k + 1) y0 y1 y2 y3 y4 y5 y6 y7)) ∧ (∀ y0 y1 y2 y3, LeO (laws_FnExactShapeOf.j2 k y0 y1 y2 y3) (laws_FnExactShapeOf.j2 (k + 1) y0 y1 y2 y3))
  | 0 => ⟨fun _ _ _ _ _ _ _ _ _ _ _ r h => by simp [laws_FnExactShapeOf.j0] at h, fun _ _ _ _ _ _ _ _ r h => by simp [laws_FnExactShapeOf.j1] at h, fun _ _ _ _ r h => by simp [laws_FnExactShapeOf.j2] at h⟩
  | k + 1 => by
    obtain ⟨ih0, ih1, ih2⟩ := laws_FnExactShapeOf.mono_l k
    refine ⟨?_, ?_, ?_⟩
    · intro y0 y1 y2 y3 y4 y5 y6 y7 y8 y9 y10
      unfold laws_FnExactShapeOf.j0
      repeat' first
      | (with_reducible exact ih0 _ _ _ _ _ _ _ _ _ _ _)
      | (with_reducible exact ih1 _ _ _ _ _ _ _ _)
      | (with_reducible exact ih2 _ _ _ _)
      | (with_reducible exact impl_ShapeOf.mono _ _ _)
      | (with_reducible exact laws_eqArray.mono _ _ _ _ _)
      | (with_reducible exact laws_heldArray.mono _ _ _ _)
      | (with_reducible exact laws_markArray.mono _ _ _ _)
      | (with_reducible exact laws_toArray.mono _ _ _)
      | (with_reducible exact spec_ShapeOf.mono _ _ _)
      | (with_reducible exact LeO.refl _)
      | (with_reducible exact LeO.none _)
      | (with_reducible refine LeO.ite ?_ ?_)
      | (with_reducible refine LeO.bind ?_ (fun _ => ?_))
      | exact ih0 _ _ _ _ _ _ _ _ _ _ _
      | exact ih1 _ _ _ _ _ _ _ _
      | exact ih2 _ _ _ _
      | exact impl_ShapeOf.mono _ _ _
      | exact laws_eqArray.mono _ _ _ _ _
      | exact laws_heldArray.mono _ _ _ _
      | exact laws_markArray.mono _ _ _ _
      | exact laws_toArray.mono _ _ _
      | exact spec_ShapeOf.mono _ _ _
      | exact LeO.none _
      | refine LeO.ite ?_ ?_
      | refine LeO.bind ?_ (fun _ => ?_)
    · intro y0 y1 y2 y3 y4 y5 y6 y7
      unfold laws_FnExactShapeOf.j1
      repeat' first
      | (with_reducible exact ih0 _ _ _ _ _ _ _ _ _ _ _)
      | (with_reducible exact ih1 _ _ _ _ _ _ _ _)
      | (with_reducible exact ih2 _ _ _ _)
      | (with_reducible exact impl_ShapeOf.mono _ _ _)
      | (with_reducible exact laws_eqArray.mono _ _ _ _ _)
      | (with_reducible exact laws_heldArray.mono _ _ _ _)
      | (with_reducible exact laws_markArray.mono _ _ _ _)
      | (with_reducible exact laws_toArray.mono _ _ _)
      | (with_reducible exact spec_ShapeOf.mono _ _ _)
      | (with_reducible exact LeO.refl _)
      | (with_reducible exact LeO.none _)
      | (with_reducible refine LeO.ite ?_ ?_)
      | (with_reducible refine LeO.bind ?_ (fun _ => ?_))
      | exact ih0 _ _ _ _ _ _ _ _ _ _ _
      | exact ih1 _ _ _ _ _ _ _ _
      | exact ih2 _ _ _ _
      | exact impl_ShapeOf.mono _ _ _
      | exact laws_eqArray.mono _ _ _ _ _
      | exact laws_heldArray.mono _ _ _ _
      | exact laws_markArray.mono _ _ _ _
      | exact laws_toArray.mono _ _ _
      | exact spec_ShapeOf.mono _ _ _
      | exact LeO.none _
      | refine LeO.ite ?_ ?_
      | refine LeO.bind ?_ (fun _ => ?_)
    · intro y0 y1 y2 y3
      unfold laws_FnExactShapeOf.j2
      repeat' first
      | (with_reducible exact ih0 _ _ _ _ _ _ _ _ _ _ _)
      | (with_reducible exact ih1 _ _ _ _ _ _ _ _)
      | (with_reducible exact ih2 _ _ _ _)
      | (with_reducible exact impl_ShapeOf.mono _ _ _)
      | (with_reducible exact laws_eqArray.mono _ _ _ _ _)
      | (with_reducible exact laws_heldArray.mono _ _ _ _)
      | (with_reducible exact laws_markArray.mono _ _ _ _)
      | (with_reducible exact laws_toArray.mono _ _ _)
      | (with_reducible exact spec_ShapeOf.mono _ _ _)
      | (with_reducible exact LeO.refl _)
      | (with_reducible exact LeO.none _)
      | (with_reducible refine LeO.ite ?_ ?_)
      | (with_reducible refine LeO.bind ?_ (fun _ => ?_))
      | exact ih0 _ _ _ _ _ _ _ _ _ _ _
      | exact ih1 _ _ _ _ _ _ _ _
      | exact ih2 _ _ _ _
      | exact impl_ShapeOf.mono _ _ _
      | exact laws_eqArray.mono _ _ _ _ _
      | exact laws_heldArray.mono _ _ _ _
      | exact laws_markArray.mono _ _ _ _
      | exact laws_toArray.mono _ _ _
      | exact spec_ShapeOf.mono _ _ _
      | exact LeO.none _
      | refine LeO.ite ?_ ?_
      | refine LeO.bind ?_ (fun _ => ?_)
theorem laws_FnExactShapeOf.mono : ∀ a0 a1 k, LeO (laws_FnExactShapeOf.f k a0 a1) (laws_FnExactShapeOf.f (k + 1) a0 a1) := by
  intro a0 a1 k
  obtain ⟨ih0, ih1, ih2⟩ := laws_FnExactShapeOf.mono_l k
  unfold laws_FnExactShapeOf.f
  repeat' first
      | (with_reducible exact ih0 _ _ _ _ _ _ _ _ _ _ _)
      | (with_reducible exact ih1 _ _ _ _ _ _ _ _)
      | (with_reducible exact ih2 _ _ _ _)
      | (with_reducible exact impl_ShapeOf.mono _ _ _)
      | (with_reducible exact laws_eqArray.mono _ _ _ _ _)
      | (with_reducible exact laws_heldArray.mono _ _ _ _)
      | (with_reducible exact laws_markArray.mono _ _ _ _)
      | (with_reducible exact laws_toArray.mono _ _ _)
      | (with_reducible exact spec_ShapeOf.mono _ _ _)
      | (with_reducible exact LeO.refl _)
      | (with_reducible exact LeO.none _)
      | (with_reducible refine LeO.ite ?_ ?_)
      | (with_reducible refine LeO.bind ?_ (fun _ => ?_))
      | exact ih0 _ _ _ _ _ _ _ _ _ _ _
      | exact ih1 _ _ _ _ _ _ _ _
      | exact ih2 _ _ _ _
      | exact impl_ShapeOf.mono _ _ _
      | exact laws_eqArray.mono _ _ _ _ _
      | exact laws_heldArray.mono _ _ _ _
      | exact laws_markArray.mono _ _ _ _
      | exact laws_toArray.mono _ _ _
      | exact spec_ShapeOf.mono _ _ _
      | exact LeO.none _
      | refine LeO.ite ?_ ?_
      | refine LeO.bind ?_ (fun _ => ?_)
set_option maxHeartbeats 8000000 in
set_option maxRecDepth 100000 in
theorem laws_FnExactShapeOf.calls (k : Nat) (A0_0 : Option Addr) (c0_0 : Nat) (l0_0 : List Int) (A0_1 : Option Addr) (c0_1 : Nat) (l0_1 : List Int) (r : Bool) (w : World) (hr0_0 : Kd.C (Kd.int .i64) w A0_0 l0_0.length l0_0) (hc0_0 : l0_0.length ≤ c0_0) (hr0_1 : Kd.C (Kd.int .i64) w A0_1 l0_1.length l0_1) (hc0_1 : l0_1.length ≤ c0_1) (h : laws_FnExactShapeOf.f k l0_0 l0_1 = some r) (hT : r = true) :
    Calls Try.prog 6 #[.agg #[.slice A0_0 l0_0.length c0_0, .slice A0_1 l0_1.length c0_1]] w fun e w' => e = .returned (.bool r) ∧ Below w.heap.size w w' := by
  have HT := Aside0.mk hT
  clear hT
  have hu37 := Try.underlying37
  have hu26 := Try.underlying26
  have HR0_0 := Aside0.mk hr0_0
  have HC0_0 := Aside0.mk hc0_0
  clear hr0_0 hc0_0
  have HR0_1 := Aside0.mk hr0_1
  have HC0_1 := Aside0.mk hc0_1
  clear hr0_1 hc0_1
  have HB := Aside0.mk (Below.refl w.heap.size w)
  have H : ((laws_szArray.f l0_0 l0_1 1048576).bind fun t189 => (if t189 < 0 then (some true) else ((laws_toArray.f k l0_0 l0_1).bind fun bt190 => ((spec_ShapeOf.f k bt190.1 bt190.2).bind fun bt196 => ((laws_toArray.f k l0_0 l0_1).bind fun bt204 => ((impl_ShapeOf.f k bt204.1 bt204.2).bind fun bt211 => ((laws_eqArray.f k bt211.1 bt211.2.1 bt196.1 bt196.2.1).bind fun t219 => (if t219 = true then (laws_FnExactShapeOf.j0 k bt196.2.2 bt211.2.2 (bt211.2.2 != bt196.2.2) l0_0 l0_1 bt196.1 bt196.2.1 bt204.1 bt204.2 bt211.1 bt211.2.1) else (laws_FnExactShapeOf.j0 k bt196.2.2 bt211.2.2 true l0_0 l0_1 bt196.1 bt196.2.1 bt204.1 bt204.2 bt211.1 bt211.2.1))))))))) = some r := h
  clear h
  replace H := Option.bind_eq_some_iff.mp H
  obtain ⟨t189, A20, H⟩ := H
  replace H : (if t189 < 0 then (some true) else ((laws_toArray.f k l0_0 l0_1).bind fun bt190 => ((spec_ShapeOf.f k bt190.1 bt190.2).bind fun bt196 => ((laws_toArray.f k l0_0 l0_1).bind fun bt204 => ((impl_ShapeOf.f k bt204.1 bt204.2).bind fun bt211 => ((laws_eqArray.f k bt211.1 bt211.2.1 bt196.1 bt196.2.1).bind fun t219 => (if t219 = true then (laws_FnExactShapeOf.j0 k bt196.2.2 bt211.2.2 (bt211.2.2 != bt196.2.2) l0_0 l0_1 bt196.1 bt196.2.1 bt204.1 bt204.2 bt211.1 bt211.2.1) else (laws_FnExactShapeOf.j0 k bt196.2.2 bt211.2.2 true l0_0 l0_1 bt196.1 bt196.2.1 bt204.1 bt204.2 bt211.1 bt211.2.1)))))))) = some r := H
  have A2 := Aside0.mk A20
  clear A20
  by_cases c3 : t189 < 0
  · rw [if_pos c3] at H
    have c3b0 : decide (t189 < 0) = true := decide_eq_true c3
    clear c3
    obtain rfl := Option.some.inj H
    go_enter Try.func6, Try.ntmps6
    go_wp2_with (first | ((with_reducible refine gate_dst (N := 1) rfl ?_); refine box_event ?hg (N := 1) ?hd (cs := #[.slice A0_0 l0_0.length c0_0, .slice A0_1 l0_1.length c0_1]) (t := 37) ?hr ?_; (case hd => rfl); (case hg => rfl); (case hr => first | (go_simp; done) | (go_simp; rfl)); intro gb188 hg w4 hbox hb; have n0_ := Aside0.mk (below_step (by repeat (first | (with_reducible first | exact HB.out | apply below_alloc | apply pw_below_drewN | apply below_drew1) | exact HB.out)) hb); have n1_ := Aside0.mk (hbox); have n2_ := Aside0.mk ((by rw [hg]; exact (below_size (by repeat (first | (with_reducible first | exact HB.out | apply below_alloc | apply pw_below_drewN | apply below_drew1) | exact HB.out))) : w.heap.size ≤ gb188)); have n3_ := Aside0.mk ((by rw [hg]; exact (below_size (by repeat (first | (with_reducible first | exact HB.out | apply below_alloc | apply pw_below_drewN | apply below_drew1) | exact HB.out))) : w.heap.size ≤ gb188)); clear HB; have HB := n0_; have BK188 := n1_; have GW188 := n2_; have GE188 := n3_; clear n0_ n1_ n2_ n3_; clear hb hbox hg; have hcz5_0 : w4.cell? ⟨gb188, 0, none⟩ = some (.slice A0_0 l0_0.length c0_0) := (blk_cell BK188.out 0).trans rfl; have hcz5_1 : w4.cell? ⟨gb188, 1, none⟩ = some (.slice A0_1 l0_1.length c0_1) := (blk_cell BK188.out 1).trans rfl; have hfz5_0 := blk_frozen BK188.out 0; have hfz5_1 := blk_frozen BK188.out 1) | ((with_reducible refine gate_callee (f := 23) rfl ?_); refine goesL_ (some 16) rfl rfl Try.func23 (by kernel_rfl) rfl #[.agg #[.slice A0_0 l0_0.length c0_0, .slice A0_1 l0_1.length c0_1], .int .i64 1048576] rfl (by (try simp only [List.map_toArray, List.map_cons, List.map_nil]); first | done | rfl | (simp only [List.length_drop, List.length_take]; rfl)) ?_; (with_reducible refine (laws_szArray.calls _ _ l0_0 _ _ l0_1 1048576 t189 _ ?side1 ?side2 ?side3 ?side4 A2.out).mono ?_); (case side1 => repeat (first | exact (Kd.C_below HR0_0.out HB.out) | (with_reducible refine Kd.C_alloc ?_ _) | (with_reducible refine Kd.C_drewN ?_ _) | (with_reducible refine Kd.C_drew ?_))); (case side2 => exact HC0_0.out); (case side3 => repeat (first | exact (Kd.C_below HR0_1.out HB.out) | (with_reducible refine Kd.C_alloc ?_ _) | (with_reducible refine Kd.C_drewN ?_ _) | (with_reducible refine Kd.C_drew ?_))); (case side4 => exact HC0_1.out); rintro e w6 ⟨rfl, hb⟩; refine ⟨_, rfl, ?_⟩; have n0_ := Aside0.mk (blk_below (g := gb188) (o := .cells #[.slice A0_0 l0_0.length c0_0, .slice A0_1 l0_1.length c0_1] 37 (0, 0)) (by (with_reducible repeat (first | refine blk_drewN ?_ _ | refine blk_drew ?_ | refine blk_alloc ?_ _)); exact BK188.out) hb); have n1_ := Aside0.mk (below_step (by repeat (first | (with_reducible first | exact HB.out | apply below_alloc | apply pw_below_drewN | apply below_drew1 | refine below_set ?_ GE188.out) | exact HB.out)) hb); clear BK188; clear HB; have BK188 := n0_; have HB := n1_; clear n0_ n1_; (try clear hb); (try clear hb2); (try clear hk); (try clear hi)))
    go_ret
    exact ⟨by first | rfl | (simp [errW_none, errW_some] <;> rfl) | (simp [*, errW_none, errW_some] <;> rfl), by repeat (first | (with_reducible first | exact HB.out | apply below_alloc | apply pw_below_drewN | apply below_drew1 | refine below_set ?_ GE188.out) | exact HB.out)⟩
  · rw [if_neg c3] at H
    have c3b0 : decide (t189 < 0) = false := decide_eq_false c3
    clear c3
    replace H := Option.bind_eq_some_iff.mp H
    obtain ⟨⟨t190, t193⟩, A70, H⟩ := H
    replace H : ((spec_ShapeOf.f k t190 t193).bind fun bt196 => ((laws_toArray.f k l0_0 l0_1).bind fun bt204 => ((impl_ShapeOf.f k bt204.1 bt204.2).bind fun bt211 => ((laws_eqArray.f k bt211.1 bt211.2.1 bt196.1 bt196.2.1).bind fun t219 => (if t219 = true then (laws_FnExactShapeOf.j0 k bt196.2.2 bt211.2.2 (bt211.2.2 != bt196.2.2) l0_0 l0_1 bt196.1 bt196.2.1 bt204.1 bt204.2 bt211.1 bt211.2.1) else (laws_FnExactShapeOf.j0 k bt196.2.2 bt211.2.2 true l0_0 l0_1 bt196.1 bt196.2.1 bt204.1 bt204.2 bt211.1 bt211.2.1)))))) = some r := H
    have A7 := Aside0.mk A70
    clear A70
    replace H := Option.bind_eq_some_iff.mp H
    obtain ⟨⟨t196, t199, t202⟩, A80, H⟩ := H
    replace H : ((laws_toArray.f k l0_0 l0_1).bind fun bt204 => ((impl_ShapeOf.f k bt204.1 bt204.2).bind fun bt211 => ((laws_eqArray.f k bt211.1 bt211.2.1 t196 t199).bind fun t219 => (if t219 = true then (laws_FnExactShapeOf.j0 k t202 bt211.2.2 (bt211.2.2 != t202) l0_0 l0_1 t196 t199 bt204.1 bt204.2 bt211.1 bt211.2.1) else (laws_FnExactShapeOf.j0 k t202 bt211.2.2 true l0_0 l0_1 t196 t199 bt204.1 bt204.2 bt211.1 bt211.2.1))))) = some r := H
    have A8 := Aside0.mk A80
    clear A80
    replace H := Option.bind_eq_some_iff.mp H
    obtain ⟨⟨t204, t207⟩, A90, H⟩ := H
    replace H : ((impl_ShapeOf.f k t204 t207).bind fun bt211 => ((laws_eqArray.f k bt211.1 bt211.2.1 t196 t199).bind fun t219 => (if t219 = true then (laws_FnExactShapeOf.j0 k t202 bt211.2.2 (bt211.2.2 != t202) l0_0 l0_1 t196 t199 t204 t207 bt211.1 bt211.2.1) else (laws_FnExactShapeOf.j0 k t202 bt211.2.2 true l0_0 l0_1 t196 t199 t204 t207 bt211.1 bt211.2.1)))) = some r := H
    have A9 := Aside0.mk A90
    clear A90
    replace H := Option.bind_eq_some_iff.mp H
    obtain ⟨⟨t211, t214, t217⟩, A100, H⟩ := H
    replace H : ((laws_eqArray.f k t211 t214 t196 t199).bind fun t219 => (if t219 = true then (laws_FnExactShapeOf.j0 k t202 t217 (t217 != t202) l0_0 l0_1 t196 t199 t204 t207 t211 t214) else (laws_FnExactShapeOf.j0 k t202 t217 true l0_0 l0_1 t196 t199 t204 t207 t211 t214))) = some r := H
    have A10 := Aside0.mk A100
    clear A100
    have HC11 := Aside0.mk H
    clear H
    go_enter Try.func6, Try.ntmps6
    go_upto_region 8 with (first | ((with_reducible refine gate_dst (N := 1) rfl ?_); refine box_event ?hg (N := 1) ?hd (cs := #[.slice A0_0 l0_0.length c0_0, .slice A0_1 l0_1.length c0_1]) (t := 37) ?hr ?_; (case hd => rfl); (case hg => rfl); (case hr => first | (go_simp; done) | (go_simp; rfl)); intro gb188 hg w12 hbox hb; have n0_ := Aside0.mk (below_step (by repeat (first | (with_reducible first | exact HB.out | apply below_alloc | apply pw_below_drewN | apply below_drew1) | exact HB.out)) hb); have n1_ := Aside0.mk (hbox); have n2_ := Aside0.mk ((by rw [hg]; exact (below_size (by repeat (first | (with_reducible first | exact HB.out | apply below_alloc | apply pw_below_drewN | apply below_drew1) | exact HB.out))) : w.heap.size ≤ gb188)); have n3_ := Aside0.mk ((by rw [hg]; exact (below_size (by repeat (first | (with_reducible first | exact HB.out | apply below_alloc | apply pw_below_drewN | apply below_drew1) | exact HB.out))) : w.heap.size ≤ gb188)); clear HB; have HB := n0_; have BK188 := n1_; have GW188 := n2_; have GE188 := n3_; clear n0_ n1_ n2_ n3_; clear hb hbox hg; have hcz13_0 : w12.cell? ⟨gb188, 0, none⟩ = some (.slice A0_0 l0_0.length c0_0) := (blk_cell BK188.out 0).trans rfl; have hcz13_1 : w12.cell? ⟨gb188, 1, none⟩ = some (.slice A0_1 l0_1.length c0_1) := (blk_cell BK188.out 1).trans rfl; have hfz13_0 := blk_frozen BK188.out 0; have hfz13_1 := blk_frozen BK188.out 1) | ((with_reducible refine gate_callee (f := 23) rfl ?_); refine goesL_ (some 16) rfl rfl Try.func23 (by kernel_rfl) rfl #[.agg #[.slice A0_0 l0_0.length c0_0, .slice A0_1 l0_1.length c0_1], .int .i64 1048576] rfl (by (try simp only [List.map_toArray, List.map_cons, List.map_nil]); first | done | rfl | (simp only [List.length_drop, List.length_take]; rfl)) ?_; (with_reducible refine (laws_szArray.calls _ _ l0_0 _ _ l0_1 1048576 t189 _ ?side1 ?side2 ?side3 ?side4 A2.out).mono ?_); (case side1 => repeat (first | exact (Kd.C_below HR0_0.out HB.out) | (with_reducible refine Kd.C_alloc ?_ _) | (with_reducible refine Kd.C_drewN ?_ _) | (with_reducible refine Kd.C_drew ?_))); (case side2 => exact HC0_0.out); (case side3 => repeat (first | exact (Kd.C_below HR0_1.out HB.out) | (with_reducible refine Kd.C_alloc ?_ _) | (with_reducible refine Kd.C_drewN ?_ _) | (with_reducible refine Kd.C_drew ?_))); (case side4 => exact HC0_1.out); rintro e w14 ⟨rfl, hb⟩; refine ⟨_, rfl, ?_⟩; have n0_ := Aside0.mk (blk_below (g := gb188) (o := .cells #[.slice A0_0 l0_0.length c0_0, .slice A0_1 l0_1.length c0_1] 37 (0, 0)) (by (with_reducible repeat (first | refine blk_drewN ?_ _ | refine blk_drew ?_ | refine blk_alloc ?_ _)); exact BK188.out) hb); have n1_ := Aside0.mk (below_step (by repeat (first | (with_reducible first | exact HB.out | apply below_alloc | apply pw_below_drewN | apply below_drew1 | refine below_set ?_ GE188.out) | exact HB.out)) hb); clear BK188; clear HB; have BK188 := n0_; have HB := n1_; clear n0_ n1_; (try clear hb); (try clear hb2); (try clear hk); (try clear hi); have hcz15_0 : w14.cell? ⟨gb188, 0, none⟩ = some (.slice A0_0 l0_0.length c0_0) := (blk_cell BK188.out 0).trans rfl; have hcz15_1 : w14.cell? ⟨gb188, 1, none⟩ = some (.slice A0_1 l0_1.length c0_1) := (blk_cell BK188.out 1).trans rfl; have hfz15_0 := blk_frozen BK188.out 0; have hfz15_1 := blk_frozen BK188.out 1) | ((with_reducible refine gate_callee (f := 25) rfl ?_); refine goesL_ (some 21) rfl rfl Try.func25 (by kernel_rfl) rfl #[.agg #[.slice A0_0 l0_0.length c0_0, .slice A0_1 l0_1.length c0_1]] rfl (by (try simp only [List.map_toArray, List.map_cons, List.map_nil]); first | done | rfl | (simp only [List.length_drop, List.length_take]; rfl)) ?_; (with_reducible refine (laws_toArray.calls k _ _ l0_0 _ _ l0_1 t190 t193 _ ?side1 ?side2 ?side3 ?side4 A7.out).mono ?_); (case side1 => repeat (first | exact (Kd.C_below HR0_0.out HB.out) | (with_reducible refine Kd.C_alloc ?_ _) | (with_reducible refine Kd.C_drewN ?_ _) | (with_reducible refine Kd.C_drew ?_))); (case side2 => exact HC0_0.out); (case side3 => repeat (first | exact (Kd.C_below HR0_1.out HB.out) | (with_reducible refine Kd.C_alloc ?_ _) | (with_reducible refine Kd.C_drewN ?_ _) | (with_reducible refine Kd.C_drew ?_))); (case side4 => exact HC0_1.out); rintro e w16 ⟨v191, v194, rfl, ho0, ho1, hb⟩; refine ⟨_, rfl, ?_⟩; have n0_ := Aside0.mk (Kd.R_lower ho0 (below_size (by repeat (first | (with_reducible first | exact HB.out | apply below_alloc | apply pw_below_drewN | apply below_drew1 | refine below_set ?_ GE188.out) | exact HB.out)))); have n1_ := Aside0.mk (Kd.R_lower ho1 (below_size (by repeat (first | (with_reducible first | exact HB.out | apply below_alloc | apply pw_below_drewN | apply below_drew1 | refine below_set ?_ GE188.out) | exact HB.out)))); have n2_ := Aside0.mk (blk_below (g := gb188) (o := .cells #[.slice A0_0 l0_0.length c0_0, .slice A0_1 l0_1.length c0_1] 37 (0, 0)) (by (with_reducible repeat (first | refine blk_drewN ?_ _ | refine blk_drew ?_ | refine blk_alloc ?_ _)); exact BK188.out) hb); have n3_ := Aside0.mk (below_step (by repeat (first | (with_reducible first | exact HB.out | apply below_alloc | apply pw_below_drewN | apply below_drew1 | refine below_set ?_ GE188.out) | exact HB.out)) hb); clear BK188; clear HB; have HO192 := n0_; have HO195 := n1_; have BK188 := n2_; have HB := n3_; clear n0_ n1_ n2_ n3_; (try clear hb); (try clear hb2); (try clear hk); (try clear hi); (try clear ho0); (try clear ho1); obtain ⟨Ao17, co17, eo17⟩ := Kd.R_slice HO192.out; subst eo17; obtain ⟨Ao18, co18, eo18⟩ := Kd.R_slice HO195.out; subst eo18) | ((with_reducible refine gate_callee (f := 34) rfl ?_); refine goesL_ (some 22) rfl rfl Try.func34 (by kernel_rfl) rfl #[.agg #[.slice Ao17 t190.length co17, .slice Ao18 t193.length co18]] rfl (by (try simp only [List.map_toArray, List.map_cons, List.map_nil]); first | done | rfl | (simp only [List.length_drop, List.length_take]; rfl)) ?_; (with_reducible refine (spec_ShapeOf.calls k _ _ t190 _ _ t193 t196 t199 t202 _ ?side1 ?side2 ?side3 ?side4 A8.out).mono ?_); (case side1 => repeat (first | exact (Kd.R_reads' HO192.out).2.2 | (with_reducible refine Kd.C_alloc ?_ _) | (with_reducible refine Kd.C_drewN ?_ _) | (with_reducible refine Kd.C_drew ?_))); (case side2 => exact (Kd.R_reads' HO192.out).2.1); (case side3 => repeat (first | exact (Kd.R_reads' HO195.out).2.2 | (with_reducible refine Kd.C_alloc ?_ _) | (with_reducible refine Kd.C_drewN ?_ _) | (with_reducible refine Kd.C_drew ?_))); (case side4 => exact (Kd.R_reads' HO195.out).2.1); rintro e w19 ⟨v197, v200, rfl, ho0, ho1, hb⟩; refine ⟨_, rfl, ?_⟩; have n0_ := Aside0.mk (Kd.R_mono (Kd.R_told (Kd.R_told (Kd.R_old (by (with_reducible repeat (first | apply Kd.R_alloc | apply Kd.R_drewN | apply Kd.R_drew)); exact HO192.out) hb) (Kd.R_base ho0)) (Kd.R_base ho1)) (fun _ h_ => h_.1)); have n1_ := Aside0.mk (Kd.R_mono (Kd.R_told (Kd.R_told (Kd.R_old (by (with_reducible repeat (first | apply Kd.R_alloc | apply Kd.R_drewN | apply Kd.R_drew)); exact HO195.out) hb) (Kd.R_base ho0)) (Kd.R_base ho1)) (fun _ h_ => h_.1)); have n2_ := Aside0.mk (Kd.R_lower (Kd.R_new' (Kd.R_new' ho0 (Kd.R_lt (by (with_reducible repeat (first | apply Kd.R_alloc | apply Kd.R_drewN | apply Kd.R_drew)); exact HO192.out))) (Kd.R_lt (by (with_reducible repeat (first | apply Kd.R_alloc | apply Kd.R_drewN | apply Kd.R_drew)); exact HO195.out))) (below_size (by repeat (first | (with_reducible first | exact HB.out | apply below_alloc | apply pw_below_drewN | apply below_drew1 | refine below_set ?_ GE188.out) | exact HB.out)))); have n3_ := Aside0.mk (Kd.R_lower (Kd.R_new' (Kd.R_new' ho1 (Kd.R_lt (by (with_reducible repeat (first | apply Kd.R_alloc | apply Kd.R_drewN | apply Kd.R_drew)); exact HO192.out))) (Kd.R_lt (by (with_reducible repeat (first | apply Kd.R_alloc | apply Kd.R_drewN | apply Kd.R_drew)); exact HO195.out))) (below_size (by repeat (first | (with_reducible first | exact HB.out | apply below_alloc | apply pw_below_drewN | apply below_drew1 | refine below_set ?_ GE188.out) | exact HB.out)))); have n4_ := Aside0.mk (blk_below (g := gb188) (o := .cells #[.slice A0_0 l0_0.length c0_0, .slice A0_1 l0_1.length c0_1] 37 (0, 0)) (by (with_reducible repeat (first | refine blk_drewN ?_ _ | refine blk_drew ?_ | refine blk_alloc ?_ _)); exact BK188.out) hb); have n5_ := Aside0.mk (below_step (by repeat (first | (with_reducible first | exact HB.out | apply below_alloc | apply pw_below_drewN | apply below_drew1 | refine below_set ?_ GE188.out) | exact HB.out)) hb); clear HO192; clear HO195; clear BK188; clear HB; have HO192 := n0_; have HO195 := n1_; have HO198 := n2_; have HO201 := n3_; have BK188 := n4_; have HB := n5_; clear n0_ n1_ n2_ n3_ n4_ n5_; (try clear hb); (try clear hb2); (try clear hk); (try clear hi); (try clear ho0); (try clear ho1)) | ((with_reducible refine gate_dst (N := 4) rfl ?_); refine box_event ?hg (N := 4) ?hd (cs := #[.slice none 0 0, .slice none 0 0]) (t := 26) ?hr ?_; (case hd => rfl); (case hg => rfl); (case hr => first | (go_simp; done) | (go_simp; rfl)); intro gb203 hg w20 hbox hb; have n0_ := Aside0.mk (Kd.R_below (by (with_reducible repeat (first | apply Kd.R_alloc | apply Kd.R_drewN | apply Kd.R_drew)); exact HO192.out) hb); have n1_ := Aside0.mk (Kd.R_below (by (with_reducible repeat (first | apply Kd.R_alloc | apply Kd.R_drewN | apply Kd.R_drew)); exact HO195.out) hb); have n2_ := Aside0.mk (Kd.R_below (by (with_reducible repeat (first | apply Kd.R_alloc | apply Kd.R_drewN | apply Kd.R_drew)); exact HO198.out) hb); have n3_ := Aside0.mk (Kd.R_below (by (with_reducible repeat (first | apply Kd.R_alloc | apply Kd.R_drewN | apply Kd.R_drew)); exact HO201.out) hb); have n4_ := Aside0.mk (blk_below (g := gb188) (o := .cells #[.slice A0_0 l0_0.length c0_0, .slice A0_1 l0_1.length c0_1] 37 (0, 0)) (by (with_reducible repeat (first | refine blk_drewN ?_ _ | refine blk_drew ?_ | refine blk_alloc ?_ _)); exact BK188.out) hb); have n5_ := Aside0.mk (below_step (by repeat (first | (with_reducible first | exact HB.out | apply below_alloc | apply pw_below_drewN | apply below_drew1 | refine below_set ?_ GE188.out) | exact HB.out)) hb); have n6_ := Aside0.mk (hbox); have n7_ := Aside0.mk ((by rw [hg]; exact (below_size (by repeat (first | (with_reducible first | exact HB.out | apply below_alloc | apply pw_below_drewN | apply below_drew1 | refine below_set ?_ GE188.out) | exact HB.out))) : w.heap.size ≤ gb203)); have n8_ := Aside0.mk ((by rw [hg]; exact (below_size (by repeat (first | (with_reducible first | exact HB.out | apply below_alloc | apply pw_below_drewN | apply below_drew1 | refine below_set ?_ GE188.out) | exact HB.out))) : w.heap.size ≤ gb203)); have n9_ := Aside0.mk ((by rw [hg]; exact Nat.ne_of_lt (blk_lt (g := gb188) (o := .cells #[.slice A0_0 l0_0.length c0_0, .slice A0_1 l0_1.length c0_1] 37 (0, 0)) (by (with_reducible repeat (first | refine blk_drewN ?_ _ | refine blk_drew ?_ | refine blk_alloc ?_ _)); exact BK188.out)) : gb188 ≠ gb203)); have n10_ := Aside0.mk ((by rw [hg]; exact Nat.ne_of_gt (blk_lt (g := gb188) (o := .cells #[.slice A0_0 l0_0.length c0_0, .slice A0_1 l0_1.length c0_1] 37 (0, 0)) (by (with_reducible repeat (first | refine blk_drewN ?_ _ | refine blk_drew ?_ | refine blk_alloc ?_ _)); exact BK188.out)) : gb203 ≠ gb188)); clear HO192; clear HO195; clear HO198; clear HO201; clear BK188; clear HB; have HO192 := n0_; have HO195 := n1_; have HO198 := n2_; have HO201 := n3_; have BK188 := n4_; have HB := n5_; have BK203 := n6_; have GW203 := n7_; have GE203 := n8_; have NB188_203 := n9_; have NB203_188 := n10_; clear n0_ n1_ n2_ n3_ n4_ n5_ n6_ n7_ n8_ n9_ n10_; clear hb hbox hg; obtain ⟨Ao21, co21, eo21⟩ := Kd.R_slice HO198.out; subst eo21; have hnb22 := NB203_188.out; have hnc22 := NB188_203.out; have hcz23_0 : w20.cell? ⟨gb203, 0, none⟩ = some (.slice none 0 0) := (blk_cell BK203.out 0).trans rfl; have hcz23_1 : w20.cell? ⟨gb203, 1, none⟩ = some (.slice none 0 0) := (blk_cell BK203.out 1).trans rfl; have hfz23_0 := blk_frozen BK203.out 0; have hfz23_1 := blk_frozen BK203.out 1; obtain ⟨Ao24, co24, eo24⟩ := Kd.R_slice HO201.out; subst eo24; have hcz25_0 : w20.cell? ⟨gb188, 0, none⟩ = some (.slice A0_0 l0_0.length c0_0) := (blk_cell BK188.out 0).trans rfl; have hcz25_1 : w20.cell? ⟨gb188, 1, none⟩ = some (.slice A0_1 l0_1.length c0_1) := (blk_cell BK188.out 1).trans rfl; have hfz25_0 := blk_frozen BK188.out 0; have hfz25_1 := blk_frozen BK188.out 1) | ((with_reducible refine gate_callee (f := 25) rfl ?_); refine goesL_ (some 26) rfl rfl Try.func25 (by kernel_rfl) rfl #[.agg #[.slice A0_0 l0_0.length c0_0, .slice A0_1 l0_1.length c0_1]] rfl (by (try simp only [List.map_toArray, List.map_cons, List.map_nil]); first | done | rfl | (simp only [List.length_drop, List.length_take]; rfl)) ?_; (with_reducible refine (laws_toArray.calls k _ _ l0_0 _ _ l0_1 t204 t207 _ ?side1 ?side2 ?side3 ?side4 A9.out).mono ?_); (case side1 => exact Kd.C_below HR0_0.out (by repeat (first | (with_reducible first | exact HB.out | apply below_alloc | apply pw_below_drewN | apply below_drew1 | refine below_set ?_ GE188.out | refine below_set ?_ GE203.out) | exact HB.out))); (case side2 => exact HC0_0.out); (case side3 => exact Kd.C_below HR0_1.out (by repeat (first | (with_reducible first | exact HB.out | apply below_alloc | apply pw_below_drewN | apply below_drew1 | refine below_set ?_ GE188.out | refine below_set ?_ GE203.out) | exact HB.out))); (case side4 => exact HC0_1.out); rintro e w26 ⟨v205, v208, rfl, ho0, ho1, hb⟩; refine ⟨_, rfl, ?_⟩; have n0_ := Aside0.mk (Kd.R_mono (Kd.R_told (Kd.R_told (Kd.R_old (by (with_reducible repeat (first | apply Kd.R_alloc | apply Kd.R_drewN | apply Kd.R_drew)); exact (Kd.R_mono (Kd.R_far (p := ⟨gb203, 1, none⟩) (Kd.R_far (p := ⟨gb203, 0, none⟩) (Kd.R_types HO192.out BK203.out (by decide)) (fun _ hk => hk.2) (.slice Ao21 t196.length co21)) (fun _ hk => hk.2) (.slice Ao24 t199.length co24)) (fun _ h_ => h_.1))) hb) (Kd.R_base ho0)) (Kd.R_base ho1)) (fun _ h_ => h_.1)); have n1_ := Aside0.mk (Kd.R_mono (Kd.R_told (Kd.R_told (Kd.R_old (by (with_reducible repeat (first | apply Kd.R_alloc | apply Kd.R_drewN | apply Kd.R_drew)); exact (Kd.R_mono (Kd.R_far (p := ⟨gb203, 1, none⟩) (Kd.R_far (p := ⟨gb203, 0, none⟩) (Kd.R_types HO195.out BK203.out (by decide)) (fun _ hk => hk.2) (.slice Ao21 t196.length co21)) (fun _ hk => hk.2) (.slice Ao24 t199.length co24)) (fun _ h_ => h_.1))) hb) (Kd.R_base ho0)) (Kd.R_base ho1)) (fun _ h_ => h_.1)); have n2_ := Aside0.mk (Kd.R_mono (Kd.R_told (Kd.R_told (Kd.R_old (by (with_reducible repeat (first | apply Kd.R_alloc | apply Kd.R_drewN | apply Kd.R_drew)); exact (Kd.R_mono (Kd.R_far (p := ⟨gb203, 1, none⟩) (Kd.R_far (p := ⟨gb203, 0, none⟩) (Kd.R_types HO198.out BK203.out (by decide)) (fun _ hk => hk.2) (.slice Ao21 t196.length co21)) (fun _ hk => hk.2) (.slice Ao24 t199.length co24)) (fun _ h_ => h_.1))) hb) (Kd.R_base ho0)) (Kd.R_base ho1)) (fun _ h_ => h_.1)); have n3_ := Aside0.mk (Kd.R_mono (Kd.R_told (Kd.R_told (Kd.R_old (by (with_reducible repeat (first | apply Kd.R_alloc | apply Kd.R_drewN | apply Kd.R_drew)); exact (Kd.R_mono (Kd.R_far (p := ⟨gb203, 1, none⟩) (Kd.R_far (p := ⟨gb203, 0, none⟩) (Kd.R_types HO201.out BK203.out (by decide)) (fun _ hk => hk.2) (.slice Ao21 t196.length co21)) (fun _ hk => hk.2) (.slice Ao24 t199.length co24)) (fun _ h_ => h_.1))) hb) (Kd.R_base ho0)) (Kd.R_base ho1)) (fun _ h_ => h_.1)); have n4_ := Aside0.mk (Kd.R_lower (Kd.R_new' (Kd.R_new' (Kd.R_new' (Kd.R_new' ho0 (Kd.R_lt (by (with_reducible repeat (first | apply Kd.R_alloc | apply Kd.R_drewN | apply Kd.R_drew)); exact (Kd.R_mono (Kd.R_far (p := ⟨gb203, 1, none⟩) (Kd.R_far (p := ⟨gb203, 0, none⟩) (Kd.R_types HO192.out BK203.out (by decide)) (fun _ hk => hk.2) (.slice Ao21 t196.length co21)) (fun _ hk => hk.2) (.slice Ao24 t199.length co24)) (fun _ h_ => h_.1))))) (Kd.R_lt (by (with_reducible repeat (first | apply Kd.R_alloc | apply Kd.R_drewN | apply Kd.R_drew)); exact (Kd.R_mono (Kd.R_far (p := ⟨gb203, 1, none⟩) (Kd.R_far (p := ⟨gb203, 0, none⟩) (Kd.R_types HO195.out BK203.out (by decide)) (fun _ hk => hk.2) (.slice Ao21 t196.length co21)) (fun _ hk => hk.2) (.slice Ao24 t199.length co24)) (fun _ h_ => h_.1))))) (Kd.R_lt (by (with_reducible repeat (first | apply Kd.R_alloc | apply Kd.R_drewN | apply Kd.R_drew)); exact (Kd.R_mono (Kd.R_far (p := ⟨gb203, 1, none⟩) (Kd.R_far (p := ⟨gb203, 0, none⟩) (Kd.R_types HO198.out BK203.out (by decide)) (fun _ hk => hk.2) (.slice Ao21 t196.length co21)) (fun _ hk => hk.2) (.slice Ao24 t199.length co24)) (fun _ h_ => h_.1))))) (Kd.R_lt (by (with_reducible repeat (first | apply Kd.R_alloc | apply Kd.R_drewN | apply Kd.R_drew)); exact (Kd.R_mono (Kd.R_far (p := ⟨gb203, 1, none⟩) (Kd.R_far (p := ⟨gb203, 0, none⟩) (Kd.R_types HO201.out BK203.out (by decide)) (fun _ hk => hk.2) (.slice Ao21 t196.length co21)) (fun _ hk => hk.2) (.slice Ao24 t199.length co24)) (fun _ h_ => h_.1))))) (below_size (by repeat (first | (with_reducible first | exact HB.out | apply below_alloc | apply pw_below_drewN | apply below_drew1 | refine below_set ?_ GE188.out | refine below_set ?_ GE203.out) | exact HB.out)))); have n5_ := Aside0.mk (Kd.R_lower (Kd.R_new' (Kd.R_new' (Kd.R_new' (Kd.R_new' ho1 (Kd.R_lt (by (with_reducible repeat (first | apply Kd.R_alloc | apply Kd.R_drewN | apply Kd.R_drew)); exact (Kd.R_mono (Kd.R_far (p := ⟨gb203, 1, none⟩) (Kd.R_far (p := ⟨gb203, 0, none⟩) (Kd.R_types HO192.out BK203.out (by decide)) (fun _ hk => hk.2) (.slice Ao21 t196.length co21)) (fun _ hk => hk.2) (.slice Ao24 t199.length co24)) (fun _ h_ => h_.1))))) (Kd.R_lt (by (with_reducible repeat (first | apply Kd.R_alloc | apply Kd.R_drewN | apply Kd.R_drew)); exact (Kd.R_mono (Kd.R_far (p := ⟨gb203, 1, none⟩) (Kd.R_far (p := ⟨gb203, 0, none⟩) (Kd.R_types HO195.out BK203.out (by decide)) (fun _ hk => hk.2) (.slice Ao21 t196.length co21)) (fun _ hk => hk.2) (.slice Ao24 t199.length co24)) (fun _ h_ => h_.1))))) (Kd.R_lt (by (with_reducible repeat (first | apply Kd.R_alloc | apply Kd.R_drewN | apply Kd.R_drew)); exact (Kd.R_mono (Kd.R_far (p := ⟨gb203, 1, none⟩) (Kd.R_far (p := ⟨gb203, 0, none⟩) (Kd.R_types HO198.out BK203.out (by decide)) (fun _ hk => hk.2) (.slice Ao21 t196.length co21)) (fun _ hk => hk.2) (.slice Ao24 t199.length co24)) (fun _ h_ => h_.1))))) (Kd.R_lt (by (with_reducible repeat (first | apply Kd.R_alloc | apply Kd.R_drewN | apply Kd.R_drew)); exact (Kd.R_mono (Kd.R_far (p := ⟨gb203, 1, none⟩) (Kd.R_far (p := ⟨gb203, 0, none⟩) (Kd.R_types HO201.out BK203.out (by decide)) (fun _ hk => hk.2) (.slice Ao21 t196.length co21)) (fun _ hk => hk.2) (.slice Ao24 t199.length co24)) (fun _ h_ => h_.1))))) (below_size (by repeat (first | (with_reducible first | exact HB.out | apply below_alloc | apply pw_below_drewN | apply below_drew1 | refine below_set ?_ GE188.out | refine below_set ?_ GE203.out) | exact HB.out)))); have n6_ := Aside0.mk (blk_below (g := gb188) (o := .cells #[.slice A0_0 l0_0.length c0_0, .slice A0_1 l0_1.length c0_1] 37 (0, 0)) (by (with_reducible repeat (first | refine blk_drewN ?_ _ | refine blk_drew ?_ | refine blk_alloc ?_ _)); refine blk_far ?_ NB188_203.out _; (with_reducible repeat (first | refine blk_drewN ?_ _ | refine blk_drew ?_ | refine blk_alloc ?_ _)); refine blk_far ?_ NB188_203.out _; (with_reducible repeat (first | refine blk_drewN ?_ _ | refine blk_drew ?_ | refine blk_alloc ?_ _)); exact BK188.out) hb); have n7_ := Aside0.mk (blk_below (g := gb203) (o := .cells #[.slice Ao21 t196.length co21, .slice Ao24 t199.length co24] 26 (0, 0)) (by (with_reducible repeat (first | refine blk_drewN ?_ _ | refine blk_drew ?_ | refine blk_alloc ?_ _)); refine blk_put (cs := #[.slice Ao21 t196.length co21, .slice none 0 0]) ?_ 1 _ rfl; (with_reducible repeat (first | refine blk_drewN ?_ _ | refine blk_drew ?_ | refine blk_alloc ?_ _)); refine blk_put (cs := #[.slice none 0 0, .slice none 0 0]) ?_ 0 _ rfl; (with_reducible repeat (first | refine blk_drewN ?_ _ | refine blk_drew ?_ | refine blk_alloc ?_ _)); exact BK203.out) hb); have n8_ := Aside0.mk (below_step (by repeat (first | (with_reducible first | exact HB.out | apply below_alloc | apply pw_below_drewN | apply below_drew1 | refine below_set ?_ GE188.out | refine below_set ?_ GE203.out) | exact HB.out)) hb); clear HO192; clear HO195; clear HO198; clear HO201; clear BK188; clear BK203; clear HB; have HO192 := n0_; have HO195 := n1_; have HO198 := n2_; have HO201 := n3_; have HO206 := n4_; have HO209 := n5_; have BK188 := n6_; have BK203 := n7_; have HB := n8_; clear n0_ n1_ n2_ n3_ n4_ n5_ n6_ n7_ n8_; (try clear hb); (try clear hb2); (try clear hk); (try clear hi); (try clear ho0); (try clear ho1)) | ((with_reducible refine gate_dst (N := 6) rfl ?_); refine box_event ?hg (N := 6) ?hd (cs := #[.slice none 0 0, .slice none 0 0]) (t := 26) ?hr ?_; (case hd => rfl); (case hg => rfl); (case hr => first | (go_simp; done) | (go_simp; rfl)); intro gb210 hg w27 hbox hb; have n0_ := Aside0.mk (Kd.R_below (by (with_reducible repeat (first | apply Kd.R_alloc | apply Kd.R_drewN | apply Kd.R_drew)); exact HO192.out) hb); have n1_ := Aside0.mk (Kd.R_below (by (with_reducible repeat (first | apply Kd.R_alloc | apply Kd.R_drewN | apply Kd.R_drew)); exact HO195.out) hb); have n2_ := Aside0.mk (Kd.R_below (by (with_reducible repeat (first | apply Kd.R_alloc | apply Kd.R_drewN | apply Kd.R_drew)); exact HO198.out) hb); have n3_ := Aside0.mk (Kd.R_below (by (with_reducible repeat (first | apply Kd.R_alloc | apply Kd.R_drewN | apply Kd.R_drew)); exact HO201.out) hb); have n4_ := Aside0.mk (Kd.R_below (by (with_reducible repeat (first | apply Kd.R_alloc | apply Kd.R_drewN | apply Kd.R_drew)); exact HO206.out) hb); have n5_ := Aside0.mk (Kd.R_below (by (with_reducible repeat (first | apply Kd.R_alloc | apply Kd.R_drewN | apply Kd.R_drew)); exact HO209.out) hb); have n6_ := Aside0.mk (blk_below (g := gb188) (o := .cells #[.slice A0_0 l0_0.length c0_0, .slice A0_1 l0_1.length c0_1] 37 (0, 0)) (by (with_reducible repeat (first | refine blk_drewN ?_ _ | refine blk_drew ?_ | refine blk_alloc ?_ _)); exact BK188.out) hb); have n7_ := Aside0.mk (blk_below (g := gb203) (o := .cells #[.slice Ao21 t196.length co21, .slice Ao24 t199.length co24] 26 (0, 0)) (by (with_reducible repeat (first | refine blk_drewN ?_ _ | refine blk_drew ?_ | refine blk_alloc ?_ _)); exact BK203.out) hb); have n8_ := Aside0.mk (below_step (by repeat (first | (with_reducible first | exact HB.out | apply below_alloc | apply pw_below_drewN | apply below_drew1 | refine below_set ?_ GE188.out | refine below_set ?_ GE203.out) | exact HB.out)) hb); have n9_ := Aside0.mk (hbox); have n10_ := Aside0.mk ((by rw [hg]; exact (below_size (by repeat (first | (with_reducible first | exact HB.out | apply below_alloc | apply pw_below_drewN | apply below_drew1 | refine below_set ?_ GE188.out | refine below_set ?_ GE203.out) | exact HB.out))) : w.heap.size ≤ gb210)); have n11_ := Aside0.mk ((by rw [hg]; exact (below_size (by repeat (first | (with_reducible first | exact HB.out | apply below_alloc | apply pw_below_drewN | apply below_drew1 | refine below_set ?_ GE188.out | refine below_set ?_ GE203.out) | exact HB.out))) : w.heap.size ≤ gb210)); have n12_ := Aside0.mk ((by rw [hg]; exact Nat.ne_of_lt (blk_lt (g := gb188) (o := .cells #[.slice A0_0 l0_0.length c0_0, .slice A0_1 l0_1.length c0_1] 37 (0, 0)) (by (with_reducible repeat (first | refine blk_drewN ?_ _ | refine blk_drew ?_ | refine blk_alloc ?_ _)); exact BK188.out)) : gb188 ≠ gb210)); have n13_ := Aside0.mk ((by rw [hg]; exact Nat.ne_of_gt (blk_lt (g := gb188) (o := .cells #[.slice A0_0 l0_0.length c0_0, .slice A0_1 l0_1.length c0_1] 37 (0, 0)) (by (with_reducible repeat (first | refine blk_drewN ?_ _ | refine blk_drew ?_ | refine blk_alloc ?_ _)); exact BK188.out)) : gb210 ≠ gb188)); have n14_ := Aside0.mk ((by rw [hg]; exact Nat.ne_of_lt (blk_lt (g := gb203) (o := .cells #[.slice Ao21 t196.length co21, .slice Ao24 t199.length co24] 26 (0, 0)) (by (with_reducible repeat (first | refine blk_drewN ?_ _ | refine blk_drew ?_ | refine blk_alloc ?_ _)); exact BK203.out)) : gb203 ≠ gb210)); have n15_ := Aside0.mk ((by rw [hg]; exact Nat.ne_of_gt (blk_lt (g := gb203) (o := .cells #[.slice Ao21 t196.length co21, .slice Ao24 t199.length co24] 26 (0, 0)) (by (with_reducible repeat (first | refine blk_drewN ?_ _ | refine blk_drew ?_ | refine blk_alloc ?_ _)); exact BK203.out)) : gb210 ≠ gb203)); clear HO192; clear HO195; clear HO198; clear HO201; clear HO206; clear HO209; clear BK188; clear BK203; clear HB; have HO192 := n0_; have HO195 := n1_; have HO198 := n2_; have HO201 := n3_; have HO206 := n4_; have HO209 := n5_; have BK188 := n6_; have BK203 := n7_; have HB := n8_; have BK210 := n9_; have GW210 := n10_; have GE210 := n11_; have NB188_210 := n12_; have NB210_188 := n13_; have NB203_210 := n14_; have NB210_203 := n15_; clear n0_ n1_ n2_ n3_ n4_ n5_ n6_ n7_ n8_ n9_ n10_ n11_ n12_ n13_ n14_ n15_; clear hb hbox hg; obtain ⟨Ao28, co28, eo28⟩ := Kd.R_slice HO206.out; subst eo28; have hnb29 := NB210_188.out; have hnc29 := NB188_210.out; have hnb30 := NB210_203.out; have hnc30 := NB203_210.out; have hcz31_0 : w27.cell? ⟨gb210, 0, none⟩ = some (.slice none 0 0) := (blk_cell BK210.out 0).trans rfl; have hcz31_1 : w27.cell? ⟨gb210, 1, none⟩ = some (.slice none 0 0) := (blk_cell BK210.out 1).trans rfl; have hfz31_0 := blk_frozen BK210.out 0; have hfz31_1 := blk_frozen BK210.out 1; obtain ⟨Ao32, co32, eo32⟩ := Kd.R_slice HO209.out; subst eo32) | ((with_reducible refine gate_callee (f := 35) rfl ?_); refine goesL_ (some 29) rfl rfl Try.func35 (by kernel_rfl) rfl #[.agg #[.slice Ao28 t204.length co28, .slice Ao32 t207.length co32]] rfl (by (try simp only [List.map_toArray, List.map_cons, List.map_nil]); first | done | rfl | (simp only [List.length_drop, List.length_take]; rfl)) ?_; (with_reducible refine (impl_ShapeOf.calls k _ _ t204 _ _ t207 t211 t214 t217 _ ?side1 ?side2 ?side3 ?side4 A10.out).mono ?_); (case side1 => refine (Kd.R_reads' (e := 3) (base := w.heap.size) (ok := fun k_ => ((((some k_ ≠ (.slice Ao32 t207.length co32 : Value).ownBlock ∧ some k_ ≠ (.slice Ao17 t190.length co17 : Value).ownBlock) ∧ some k_ ≠ (.slice Ao18 t193.length co18 : Value).ownBlock) ∧ some k_ ≠ (.slice Ao21 t196.length co21 : Value).ownBlock) ∧ some k_ ≠ (.slice Ao24 t199.length co24 : Value).ownBlock)) (n := t204.length) (c := co28) ?_).2.2; exact (by (with_reducible repeat (first | apply Kd.R_alloc | apply Kd.R_drewN | apply Kd.R_drew)); exact (Kd.R_mono (Kd.R_far (p := ⟨gb210, 1, none⟩) (Kd.R_far (p := ⟨gb210, 0, none⟩) (Kd.R_types HO206.out BK210.out (by decide)) (fun _ hk => hk.2) (.slice Ao28 t204.length co28)) (fun _ hk => hk.2) (.slice Ao32 t207.length co32)) (fun _ h_ => h_.1)))); (case side2 => exact (Kd.R_reads' HO206.out).2.1); (case side3 => refine (Kd.R_reads' (e := 3) (base := w.heap.size) (ok := fun k_ => ((((some k_ ≠ (.slice Ao28 t204.length co28 : Value).ownBlock ∧ some k_ ≠ (.slice Ao17 t190.length co17 : Value).ownBlock) ∧ some k_ ≠ (.slice Ao18 t193.length co18 : Value).ownBlock) ∧ some k_ ≠ (.slice Ao21 t196.length co21 : Value).ownBlock) ∧ some k_ ≠ (.slice Ao24 t199.length co24 : Value).ownBlock)) (n := t207.length) (c := co32) ?_).2.2; exact (by (with_reducible repeat (first | apply Kd.R_alloc | apply Kd.R_drewN | apply Kd.R_drew)); exact (Kd.R_mono (Kd.R_far (p := ⟨gb210, 1, none⟩) (Kd.R_far (p := ⟨gb210, 0, none⟩) (Kd.R_types HO209.out BK210.out (by decide)) (fun _ hk => hk.2) (.slice Ao28 t204.length co28)) (fun _ hk => hk.2) (.slice Ao32 t207.length co32)) (fun _ h_ => h_.1)))); (case side4 => exact (Kd.R_reads' HO209.out).2.1); rintro e w33 ⟨v212, v215, rfl, ho0, ho1, hb⟩; refine ⟨_, rfl, ?_⟩; have n0_ := Aside0.mk (Kd.R_mono (Kd.R_told (Kd.R_told (Kd.R_old (by (with_reducible repeat (first | apply Kd.R_alloc | apply Kd.R_drewN | apply Kd.R_drew)); exact (Kd.R_mono (Kd.R_far (p := ⟨gb210, 1, none⟩) (Kd.R_far (p := ⟨gb210, 0, none⟩) (Kd.R_types HO192.out BK210.out (by decide)) (fun _ hk => hk.2) (.slice Ao28 t204.length co28)) (fun _ hk => hk.2) (.slice Ao32 t207.length co32)) (fun _ h_ => h_.1))) hb) (Kd.R_base ho0)) (Kd.R_base ho1)) (fun _ h_ => h_.1)); have n1_ := Aside0.mk (Kd.R_mono (Kd.R_told (Kd.R_told (Kd.R_old (by (with_reducible repeat (first | apply Kd.R_alloc | apply Kd.R_drewN | apply Kd.R_drew)); exact (Kd.R_mono (Kd.R_far (p := ⟨gb210, 1, none⟩) (Kd.R_far (p := ⟨gb210, 0, none⟩) (Kd.R_types HO195.out BK210.out (by decide)) (fun _ hk => hk.2) (.slice Ao28 t204.length co28)) (fun _ hk => hk.2) (.slice Ao32 t207.length co32)) (fun _ h_ => h_.1))) hb) (Kd.R_base ho0)) (Kd.R_base ho1)) (fun _ h_ => h_.1)); have n2_ := Aside0.mk (Kd.R_mono (Kd.R_told (Kd.R_told (Kd.R_old (by (with_reducible repeat (first | apply Kd.R_alloc | apply Kd.R_drewN | apply Kd.R_drew)); exact (Kd.R_mono (Kd.R_far (p := ⟨gb210, 1, none⟩) (Kd.R_far (p := ⟨gb210, 0, none⟩) (Kd.R_types HO198.out BK210.out (by decide)) (fun _ hk => hk.2) (.slice Ao28 t204.length co28)) (fun _ hk => hk.2) (.slice Ao32 t207.length co32)) (fun _ h_ => h_.1))) hb) (Kd.R_base ho0)) (Kd.R_base ho1)) (fun _ h_ => h_.1)); have n3_ := Aside0.mk (Kd.R_mono (Kd.R_told (Kd.R_told (Kd.R_old (by (with_reducible repeat (first | apply Kd.R_alloc | apply Kd.R_drewN | apply Kd.R_drew)); exact (Kd.R_mono (Kd.R_far (p := ⟨gb210, 1, none⟩) (Kd.R_far (p := ⟨gb210, 0, none⟩) (Kd.R_types HO201.out BK210.out (by decide)) (fun _ hk => hk.2) (.slice Ao28 t204.length co28)) (fun _ hk => hk.2) (.slice Ao32 t207.length co32)) (fun _ h_ => h_.1))) hb) (Kd.R_base ho0)) (Kd.R_base ho1)) (fun _ h_ => h_.1)); have n4_ := Aside0.mk (Kd.R_mono (Kd.R_told (Kd.R_told (Kd.R_old (by (with_reducible repeat (first | apply Kd.R_alloc | apply Kd.R_drewN | apply Kd.R_drew)); exact (Kd.R_mono (Kd.R_far (p := ⟨gb210, 1, none⟩) (Kd.R_far (p := ⟨gb210, 0, none⟩) (Kd.R_types HO206.out BK210.out (by decide)) (fun _ hk => hk.2) (.slice Ao28 t204.length co28)) (fun _ hk => hk.2) (.slice Ao32 t207.length co32)) (fun _ h_ => h_.1))) hb) (Kd.R_base ho0)) (Kd.R_base ho1)) (fun _ h_ => h_.1)); have n5_ := Aside0.mk (Kd.R_mono (Kd.R_told (Kd.R_told (Kd.R_old (by (with_reducible repeat (first | apply Kd.R_alloc | apply Kd.R_drewN | apply Kd.R_drew)); exact (Kd.R_mono (Kd.R_far (p := ⟨gb210, 1, none⟩) (Kd.R_far (p := ⟨gb210, 0, none⟩) (Kd.R_types HO209.out BK210.out (by decide)) (fun _ hk => hk.2) (.slice Ao28 t204.length co28)) (fun _ hk => hk.2) (.slice Ao32 t207.length co32)) (fun _ h_ => h_.1))) hb) (Kd.R_base ho0)) (Kd.R_base ho1)) (fun _ h_ => h_.1)); have n6_ := Aside0.mk (Kd.R_lower (Kd.R_new' (Kd.R_new' (Kd.R_new' (Kd.R_new' (Kd.R_new' (Kd.R_new' ho0 (Kd.R_lt (by (with_reducible repeat (first | apply Kd.R_alloc | apply Kd.R_drewN | apply Kd.R_drew)); exact (Kd.R_mono (Kd.R_far (p := ⟨gb210, 1, none⟩) (Kd.R_far (p := ⟨gb210, 0, none⟩) (Kd.R_types HO192.out BK210.out (by decide)) (fun _ hk => hk.2) (.slice Ao28 t204.length co28)) (fun _ hk => hk.2) (.slice Ao32 t207.length co32)) (fun _ h_ => h_.1))))) (Kd.R_lt (by (with_reducible repeat (first | apply Kd.R_alloc | apply Kd.R_drewN | apply Kd.R_drew)); exact (Kd.R_mono (Kd.R_far (p := ⟨gb210, 1, none⟩) (Kd.R_far (p := ⟨gb210, 0, none⟩) (Kd.R_types HO195.out BK210.out (by decide)) (fun _ hk => hk.2) (.slice Ao28 t204.length co28)) (fun _ hk => hk.2) (.slice Ao32 t207.length co32)) (fun _ h_ => h_.1))))) (Kd.R_lt (by (with_reducible repeat (first | apply Kd.R_alloc | apply Kd.R_drewN | apply Kd.R_drew)); exact (Kd.R_mono (Kd.R_far (p := ⟨gb210, 1, none⟩) (Kd.R_far (p := ⟨gb210, 0, none⟩) (Kd.R_types HO198.out BK210.out (by decide)) (fun _ hk => hk.2) (.slice Ao28 t204.length co28)) (fun _ hk => hk.2) (.slice Ao32 t207.length co32)) (fun _ h_ => h_.1))))) (Kd.R_lt (by (with_reducible repeat (first | apply Kd.R_alloc | apply Kd.R_drewN | apply Kd.R_drew)); exact (Kd.R_mono (Kd.R_far (p := ⟨gb210, 1, none⟩) (Kd.R_far (p := ⟨gb210, 0, none⟩) (Kd.R_types HO201.out BK210.out (by decide)) (fun _ hk => hk.2) (.slice Ao28 t204.length co28)) (fun _ hk => hk.2) (.slice Ao32 t207.length co32)) (fun _ h_ => h_.1))))) (Kd.R_lt (by (with_reducible repeat (first | apply Kd.R_alloc | apply Kd.R_drewN | apply Kd.R_drew)); exact (Kd.R_mono (Kd.R_far (p := ⟨gb210, 1, none⟩) (Kd.R_far (p := ⟨gb210, 0, none⟩) (Kd.R_types HO206.out BK210.out (by decide)) (fun _ hk => hk.2) (.slice Ao28 t204.length co28)) (fun _ hk => hk.2) (.slice Ao32 t207.length co32)) (fun _ h_ => h_.1))))) (Kd.R_lt (by (with_reducible repeat (first | apply Kd.R_alloc | apply Kd.R_drewN | apply Kd.R_drew)); exact (Kd.R_mono (Kd.R_far (p := ⟨gb210, 1, none⟩) (Kd.R_far (p := ⟨gb210, 0, none⟩) (Kd.R_types HO209.out BK210.out (by decide)) (fun _ hk => hk.2) (.slice Ao28 t204.length co28)) (fun _ hk => hk.2) (.slice Ao32 t207.length co32)) (fun _ h_ => h_.1))))) (below_size (by repeat (first | (with_reducible first | exact HB.out | apply below_alloc | apply pw_below_drewN | apply below_drew1 | refine below_set ?_ GE188.out | refine below_set ?_ GE203.out | refine below_set ?_ GE210.out) | exact HB.out)))); have n7_ := Aside0.mk (Kd.R_lower (Kd.R_new' (Kd.R_new' (Kd.R_new' (Kd.R_new' (Kd.R_new' (Kd.R_new' ho1 (Kd.R_lt (by (with_reducible repeat (first | apply Kd.R_alloc | apply Kd.R_drewN | apply Kd.R_drew)); exact (Kd.R_mono (Kd.R_far (p := ⟨gb210, 1, none⟩) (Kd.R_far (p := ⟨gb210, 0, none⟩) (Kd.R_types HO192.out BK210.out (by decide)) (fun _ hk => hk.2) (.slice Ao28 t204.length co28)) (fun _ hk => hk.2) (.slice Ao32 t207.length co32)) (fun _ h_ => h_.1))))) (Kd.R_lt (by (with_reducible repeat (first | apply Kd.R_alloc | apply Kd.R_drewN | apply Kd.R_drew)); exact (Kd.R_mono (Kd.R_far (p := ⟨gb210, 1, none⟩) (Kd.R_far (p := ⟨gb210, 0, none⟩) (Kd.R_types HO195.out BK210.out (by decide)) (fun _ hk => hk.2) (.slice Ao28 t204.length co28)) (fun _ hk => hk.2) (.slice Ao32 t207.length co32)) (fun _ h_ => h_.1))))) (Kd.R_lt (by (with_reducible repeat (first | apply Kd.R_alloc | apply Kd.R_drewN | apply Kd.R_drew)); exact (Kd.R_mono (Kd.R_far (p := ⟨gb210, 1, none⟩) (Kd.R_far (p := ⟨gb210, 0, none⟩) (Kd.R_types HO198.out BK210.out (by decide)) (fun _ hk => hk.2) (.slice Ao28 t204.length co28)) (fun _ hk => hk.2) (.slice Ao32 t207.length co32)) (fun _ h_ => h_.1))))) (Kd.R_lt (by (with_reducible repeat (first | apply Kd.R_alloc | apply Kd.R_drewN | apply Kd.R_drew)); exact (Kd.R_mono (Kd.R_far (p := ⟨gb210, 1, none⟩) (Kd.R_far (p := ⟨gb210, 0, none⟩) (Kd.R_types HO201.out BK210.out (by decide)) (fun _ hk => hk.2) (.slice Ao28 t204.length co28)) (fun _ hk => hk.2) (.slice Ao32 t207.length co32)) (fun _ h_ => h_.1))))) (Kd.R_lt (by (with_reducible repeat (first | apply Kd.R_alloc | apply Kd.R_drewN | apply Kd.R_drew)); exact (Kd.R_mono (Kd.R_far (p := ⟨gb210, 1, none⟩) (Kd.R_far (p := ⟨gb210, 0, none⟩) (Kd.R_types HO206.out BK210.out (by decide)) (fun _ hk => hk.2) (.slice Ao28 t204.length co28)) (fun _ hk => hk.2) (.slice Ao32 t207.length co32)) (fun _ h_ => h_.1))))) (Kd.R_lt (by (with_reducible repeat (first | apply Kd.R_alloc | apply Kd.R_drewN | apply Kd.R_drew)); exact (Kd.R_mono (Kd.R_far (p := ⟨gb210, 1, none⟩) (Kd.R_far (p := ⟨gb210, 0, none⟩) (Kd.R_types HO209.out BK210.out (by decide)) (fun _ hk => hk.2) (.slice Ao28 t204.length co28)) (fun _ hk => hk.2) (.slice Ao32 t207.length co32)) (fun _ h_ => h_.1))))) (below_size (by repeat (first | (with_reducible first | exact HB.out | apply below_alloc | apply pw_below_drewN | apply below_drew1 | refine below_set ?_ GE188.out | refine below_set ?_ GE203.out | refine below_set ?_ GE210.out) | exact HB.out)))); have n8_ := Aside0.mk (blk_below (g := gb188) (o := .cells #[.slice A0_0 l0_0.length c0_0, .slice A0_1 l0_1.length c0_1] 37 (0, 0)) (by (with_reducible repeat (first | refine blk_drewN ?_ _ | refine blk_drew ?_ | refine blk_alloc ?_ _)); refine blk_far ?_ NB188_210.out _; (with_reducible repeat (first | refine blk_drewN ?_ _ | refine blk_drew ?_ | refine blk_alloc ?_ _)); refine blk_far ?_ NB188_210.out _; (with_reducible repeat (first | refine blk_drewN ?_ _ | refine blk_drew ?_ | refine blk_alloc ?_ _)); exact BK188.out) hb); have n9_ := Aside0.mk (blk_below (g := gb203) (o := .cells #[.slice Ao21 t196.length co21, .slice Ao24 t199.length co24] 26 (0, 0)) (by (with_reducible repeat (first | refine blk_drewN ?_ _ | refine blk_drew ?_ | refine blk_alloc ?_ _)); refine blk_far ?_ NB203_210.out _; (with_reducible repeat (first | refine blk_drewN ?_ _ | refine blk_drew ?_ | refine blk_alloc ?_ _)); refine blk_far ?_ NB203_210.out _; (with_reducible repeat (first | refine blk_drewN ?_ _ | refine blk_drew ?_ | refine blk_alloc ?_ _)); exact BK203.out) hb); have n10_ := Aside0.mk (blk_below (g := gb210) (o := .cells #[.slice Ao28 t204.length co28, .slice Ao32 t207.length co32] 26 (0, 0)) (by (with_reducible repeat (first | refine blk_drewN ?_ _ | refine blk_drew ?_ | refine blk_alloc ?_ _)); refine blk_put (cs := #[.slice Ao28 t204.length co28, .slice none 0 0]) ?_ 1 _ rfl; (with_reducible repeat (first | refine blk_drewN ?_ _ | refine blk_drew ?_ | refine blk_alloc ?_ _)); refine blk_put (cs := #[.slice none 0 0, .slice none 0 0]) ?_ 0 _ rfl; (with_reducible repeat (first | refine blk_drewN ?_ _ | refine blk_drew ?_ | refine blk_alloc ?_ _)); exact BK210.out) hb); have n11_ := Aside0.mk (below_step (by repeat (first | (with_reducible first | exact HB.out | apply below_alloc | apply pw_below_drewN | apply below_drew1 | refine below_set ?_ GE188.out | refine below_set ?_ GE203.out | refine below_set ?_ GE210.out) | exact HB.out)) hb); clear HO192; clear HO195; clear HO198; clear HO201; clear HO206; clear HO209; clear BK188; clear BK203; clear BK210; clear HB; have HO192 := n0_; have HO195 := n1_; have HO198 := n2_; have HO201 := n3_; have HO206 := n4_; have HO209 := n5_; have HO213 := n6_; have HO216 := n7_; have BK188 := n8_; have BK203 := n9_; have BK210 := n10_; have HB := n11_; clear n0_ n1_ n2_ n3_ n4_ n5_ n6_ n7_ n8_ n9_ n10_ n11_; (try clear hb); (try clear hb2); (try clear hk); (try clear hi); (try clear ho0); (try clear ho1)) | ((with_reducible refine gate_dst (N := 7) rfl ?_); refine box_event ?hg (N := 7) ?hd (cs := #[.slice none 0 0, .slice none 0 0]) (t := 26) ?hr ?_; (case hd => rfl); (case hg => rfl); (case hr => first | (go_simp; done) | (go_simp; rfl)); intro gb218 hg w34 hbox hb; have n0_ := Aside0.mk (Kd.R_below (by (with_reducible repeat (first | apply Kd.R_alloc | apply Kd.R_drewN | apply Kd.R_drew)); exact HO192.out) hb); have n1_ := Aside0.mk (Kd.R_below (by (with_reducible repeat (first | apply Kd.R_alloc | apply Kd.R_drewN | apply Kd.R_drew)); exact HO195.out) hb); have n2_ := Aside0.mk (Kd.R_below (by (with_reducible repeat (first | apply Kd.R_alloc | apply Kd.R_drewN | apply Kd.R_drew)); exact HO198.out) hb); have n3_ := Aside0.mk (Kd.R_below (by (with_reducible repeat (first | apply Kd.R_alloc | apply Kd.R_drewN | apply Kd.R_drew)); exact HO201.out) hb); have n4_ := Aside0.mk (Kd.R_below (by (with_reducible repeat (first | apply Kd.R_alloc | apply Kd.R_drewN | apply Kd.R_drew)); exact HO206.out) hb); have n5_ := Aside0.mk (Kd.R_below (by (with_reducible repeat (first | apply Kd.R_alloc | apply Kd.R_drewN | apply Kd.R_drew)); exact HO209.out) hb); have n6_ := Aside0.mk (Kd.R_below (by (with_reducible repeat (first | apply Kd.R_alloc | apply Kd.R_drewN | apply Kd.R_drew)); exact HO213.out) hb); have n7_ := Aside0.mk (Kd.R_below (by (with_reducible repeat (first | apply Kd.R_alloc | apply Kd.R_drewN | apply Kd.R_drew)); exact HO216.out) hb); have n8_ := Aside0.mk (blk_below (g := gb188) (o := .cells #[.slice A0_0 l0_0.length c0_0, .slice A0_1 l0_1.length c0_1] 37 (0, 0)) (by (with_reducible repeat (first | refine blk_drewN ?_ _ | refine blk_drew ?_ | refine blk_alloc ?_ _)); exact BK188.out) hb); have n9_ := Aside0.mk (blk_below (g := gb203) (o := .cells #[.slice Ao21 t196.length co21, .slice Ao24 t199.length co24] 26 (0, 0)) (by (with_reducible repeat (first | refine blk_drewN ?_ _ | refine blk_drew ?_ | refine blk_alloc ?_ _)); exact BK203.out) hb); have n10_ := Aside0.mk (blk_below (g := gb210) (o := .cells #[.slice Ao28 t204.length co28, .slice Ao32 t207.length co32] 26 (0, 0)) (by (with_reducible repeat (first | refine blk_drewN ?_ _ | refine blk_drew ?_ | refine blk_alloc ?_ _)); exact BK210.out) hb); have n11_ := Aside0.mk (below_step (by repeat (first | (with_reducible first | exact HB.out | apply below_alloc | apply pw_below_drewN | apply below_drew1 | refine below_set ?_ GE188.out | refine below_set ?_ GE203.out | refine below_set ?_ GE210.out) | exact HB.out)) hb); have n12_ := Aside0.mk (hbox); have n13_ := Aside0.mk ((by rw [hg]; exact (below_size (by repeat (first | (with_reducible first | exact HB.out | apply below_alloc | apply pw_below_drewN | apply below_drew1 | refine below_set ?_ GE188.out | refine below_set ?_ GE203.out | refine below_set ?_ GE210.out) | exact HB.out))) : w.heap.size ≤ gb218)); have n14_ := Aside0.mk ((by rw [hg]; exact (below_size (by repeat (first | (with_reducible first | exact HB.out | apply below_alloc | apply pw_below_drewN | apply below_drew1 | refine below_set ?_ GE188.out | refine below_set ?_ GE203.out | refine below_set ?_ GE210.out) | exact HB.out))) : w.heap.size ≤ gb218)); have n15_ := Aside0.mk ((by rw [hg]; exact Nat.ne_of_lt (blk_lt (g := gb188) (o := .cells #[.slice A0_0 l0_0.length c0_0, .slice A0_1 l0_1.length c0_1] 37 (0, 0)) (by (with_reducible repeat (first | refine blk_drewN ?_ _ | refine blk_drew ?_ | refine blk_alloc ?_ _)); exact BK188.out)) : gb188 ≠ gb218)); have n16_ := Aside0.mk ((by rw [hg]; exact Nat.ne_of_gt (blk_lt (g := gb188) (o := .cells #[.slice A0_0 l0_0.length c0_0, .slice A0_1 l0_1.length c0_1] 37 (0, 0)) (by (with_reducible repeat (first | refine blk_drewN ?_ _ | refine blk_drew ?_ | refine blk_alloc ?_ _)); exact BK188.out)) : gb218 ≠ gb188)); have n17_ := Aside0.mk ((by rw [hg]; exact Nat.ne_of_lt (blk_lt (g := gb203) (o := .cells #[.slice Ao21 t196.length co21, .slice Ao24 t199.length co24] 26 (0, 0)) (by (with_reducible repeat (first | refine blk_drewN ?_ _ | refine blk_drew ?_ | refine blk_alloc ?_ _)); exact BK203.out)) : gb203 ≠ gb218)); have n18_ := Aside0.mk ((by rw [hg]; exact Nat.ne_of_gt (blk_lt (g := gb203) (o := .cells #[.slice Ao21 t196.length co21, .slice Ao24 t199.length co24] 26 (0, 0)) (by (with_reducible repeat (first | refine blk_drewN ?_ _ | refine blk_drew ?_ | refine blk_alloc ?_ _)); exact BK203.out)) : gb218 ≠ gb203)); have n19_ := Aside0.mk ((by rw [hg]; exact Nat.ne_of_lt (blk_lt (g := gb210) (o := .cells #[.slice Ao28 t204.length co28, .slice Ao32 t207.length co32] 26 (0, 0)) (by (with_reducible repeat (first | refine blk_drewN ?_ _ | refine blk_drew ?_ | refine blk_alloc ?_ _)); exact BK210.out)) : gb210 ≠ gb218)); have n20_ := Aside0.mk ((by rw [hg]; exact Nat.ne_of_gt (blk_lt (g := gb210) (o := .cells #[.slice Ao28 t204.length co28, .slice Ao32 t207.length co32] 26 (0, 0)) (by (with_reducible repeat (first | refine blk_drewN ?_ _ | refine blk_drew ?_ | refine blk_alloc ?_ _)); exact BK210.out)) : gb218 ≠ gb210)); clear HO192; clear HO195; clear HO198; clear HO201; clear HO206; clear HO209; clear HO213; clear HO216; clear BK188; clear BK203; clear BK210; clear HB; have HO192 := n0_; have HO195 := n1_; have HO198 := n2_; have HO201 := n3_; have HO206 := n4_; have HO209 := n5_; have HO213 := n6_; have HO216 := n7_; have BK188 := n8_; have BK203 := n9_; have BK210 := n10_; have HB := n11_; have BK218 := n12_; have GW218 := n13_; have GE218 := n14_; have NB188_218 := n15_; have NB218_188 := n16_; have NB203_218 := n17_; have NB218_203 := n18_; have NB210_218 := n19_; have NB218_210 := n20_; clear n0_ n1_ n2_ n3_ n4_ n5_ n6_ n7_ n8_ n9_ n10_ n11_ n12_ n13_ n14_ n15_ n16_ n17_ n18_ n19_ n20_; clear hb hbox hg; obtain ⟨Ao35, co35, eo35⟩ := Kd.R_slice HO213.out; subst eo35; have hnb36 := NB218_188.out; have hnc36 := NB188_218.out; have hnb37 := NB218_203.out; have hnc37 := NB203_218.out; have hnb38 := NB218_210.out; have hnc38 := NB210_218.out; have hcz39_0 : w34.cell? ⟨gb218, 0, none⟩ = some (.slice none 0 0) := (blk_cell BK218.out 0).trans rfl; have hcz39_1 : w34.cell? ⟨gb218, 1, none⟩ = some (.slice none 0 0) := (blk_cell BK218.out 1).trans rfl; have hfz39_0 := blk_frozen BK218.out 0; have hfz39_1 := blk_frozen BK218.out 1; obtain ⟨Ao40, co40, eo40⟩ := Kd.R_slice HO216.out; subst eo40))
    (try simp only [Act.put, List.setIfInBounds_toArray, List.set_cons_zero, List.set_cons_succ])
    go_cut [40] (fun v40 wc => ∃ (kq : Nat) (x40_10 : Bool), v40 = .bool x40_10 ∧ Aside0 (laws_FnExactShapeOf.j0 kq t202 t217 x40_10 l0_0 l0_1 t196 t199 t204 t207 t211 t214 = some r) ∧ Aside0 (kq ≤ k) ∧ Aside0 (Kd.R (Kd.int .i64) 3 wc w.heap.size (fun k_ => some k_ ≠ ((.slice Ao24 t199.length co24) : Value).ownBlock ∧ some k_ ≠ ((.slice Ao28 t204.length co28) : Value).ownBlock ∧ some k_ ≠ ((.slice Ao32 t207.length co32) : Value).ownBlock ∧ some k_ ≠ ((.slice Ao35 t211.length co35) : Value).ownBlock ∧ some k_ ≠ ((.slice Ao40 t214.length co40) : Value).ownBlock) (.slice Ao21 t196.length co21) t196) ∧ Aside0 (Kd.R (Kd.int .i64) 3 wc w.heap.size (fun k_ => some k_ ≠ ((.slice Ao21 t196.length co21) : Value).ownBlock ∧ some k_ ≠ ((.slice Ao28 t204.length co28) : Value).ownBlock ∧ some k_ ≠ ((.slice Ao32 t207.length co32) : Value).ownBlock ∧ some k_ ≠ ((.slice Ao35 t211.length co35) : Value).ownBlock ∧ some k_ ≠ ((.slice Ao40 t214.length co40) : Value).ownBlock) (.slice Ao24 t199.length co24) t199) ∧ Aside0 (Kd.R (Kd.int .i64) 3 wc w.heap.size (fun k_ => some k_ ≠ ((.slice Ao21 t196.length co21) : Value).ownBlock ∧ some k_ ≠ ((.slice Ao24 t199.length co24) : Value).ownBlock ∧ some k_ ≠ ((.slice Ao32 t207.length co32) : Value).ownBlock ∧ some k_ ≠ ((.slice Ao35 t211.length co35) : Value).ownBlock ∧ some k_ ≠ ((.slice Ao40 t214.length co40) : Value).ownBlock) (.slice Ao28 t204.length co28) t204) ∧ Aside0 (Kd.R (Kd.int .i64) 3 wc w.heap.size (fun k_ => some k_ ≠ ((.slice Ao21 t196.length co21) : Value).ownBlock ∧ some k_ ≠ ((.slice Ao24 t199.length co24) : Value).ownBlock ∧ some k_ ≠ ((.slice Ao28 t204.length co28) : Value).ownBlock ∧ some k_ ≠ ((.slice Ao35 t211.length co35) : Value).ownBlock ∧ some k_ ≠ ((.slice Ao40 t214.length co40) : Value).ownBlock) (.slice Ao32 t207.length co32) t207) ∧ Aside0 (Kd.R (Kd.int .i64) 3 wc w.heap.size (fun k_ => some k_ ≠ ((.slice Ao21 t196.length co21) : Value).ownBlock ∧ some k_ ≠ ((.slice Ao24 t199.length co24) : Value).ownBlock ∧ some k_ ≠ ((.slice Ao28 t204.length co28) : Value).ownBlock ∧ some k_ ≠ ((.slice Ao32 t207.length co32) : Value).ownBlock ∧ some k_ ≠ ((.slice Ao40 t214.length co40) : Value).ownBlock) (.slice Ao35 t211.length co35) t211) ∧ Aside0 (Kd.R (Kd.int .i64) 3 wc w.heap.size (fun k_ => some k_ ≠ ((.slice Ao21 t196.length co21) : Value).ownBlock ∧ some k_ ≠ ((.slice Ao24 t199.length co24) : Value).ownBlock ∧ some k_ ≠ ((.slice Ao28 t204.length co28) : Value).ownBlock ∧ some k_ ≠ ((.slice Ao32 t207.length co32) : Value).ownBlock ∧ some k_ ≠ ((.slice Ao35 t211.length co35) : Value).ownBlock) (.slice Ao40 t214.length co40) t214) ∧ Aside0 (wc.heap[gb188]? = some (.cells #[(.slice A0_0 l0_0.length c0_0), (.slice A0_1 l0_1.length c0_1)] 37 (0, 0))) ∧ Aside0 (wc.heap[gb203]? = some (.cells #[(.slice Ao21 t196.length co21), (.slice Ao24 t199.length co24)] 26 (0, 0))) ∧ Aside0 (wc.heap[gb210]? = some (.cells #[(.slice Ao28 t204.length co28), (.slice Ao32 t207.length co32)] 26 (0, 0))) ∧ Aside0 (wc.heap[gb218]? = some (.cells #[(.slice Ao35 t211.length co35), (.slice Ao40 t214.length co40)] 26 (0, 0))) ∧ Aside0 (Below w.heap.size w wc))
    case first =>
      have H := HC11.out
      clear HC11
      replace H := Option.bind_eq_some_iff.mp H
      obtain ⟨t219, A410, H⟩ := H
      replace H : (if t219 = true then (laws_FnExactShapeOf.j0 k t202 t217 (t217 != t202) l0_0 l0_1 t196 t199 t204 t207 t211 t214) else (laws_FnExactShapeOf.j0 k t202 t217 true l0_0 l0_1 t196 t199 t204 t207 t211 t214)) = some r := H
      have A41 := Aside0.mk A410
      clear A410
      by_cases c42 : t219 = true
      · subst c42
        have H1 : (laws_FnExactShapeOf.j0 k t202 t217 (t217 != t202) l0_0 l0_1 t196 t199 t204 t207 t211 t214) = some r := by rw [if_pos rfl] at H; exact H
        clear H
        have H := H1
        clear H1
        have H' := Aside0.mk H
        clear H
        have hnb43 := NB218_188.out
        have hnc43 := NB188_218.out
        have hnb44 := NB218_203.out
        have hnc44 := NB203_218.out
        have hnb45 := NB218_210.out
        have hnc45 := NB210_218.out
        have hcz46_0 : w34.cell? ⟨gb218, 0, none⟩ = some (.slice none 0 0) := (blk_cell BK218.out 0).trans rfl
        have hcz46_1 : w34.cell? ⟨gb218, 1, none⟩ = some (.slice none 0 0) := (blk_cell BK218.out 1).trans rfl
        have hfz46_0 := blk_frozen BK218.out 0
        have hfz46_1 := blk_frozen BK218.out 1
        have hnb47 := NB203_188.out
        have hnc47 := NB188_203.out
        have hnb48 := NB203_210.out
        have hnc48 := NB210_203.out
        have hcz49_0 : w34.cell? ⟨gb203, 0, none⟩ = some (.slice Ao21 t196.length co21) := (blk_cell BK203.out 0).trans rfl
        have hcz49_1 : w34.cell? ⟨gb203, 1, none⟩ = some (.slice Ao24 t199.length co24) := (blk_cell BK203.out 1).trans rfl
        have hfz49_0 := blk_frozen BK203.out 0
        have hfz49_1 := blk_frozen BK203.out 1
        go_wp2_with (first | ((with_reducible refine gate_callee (f := 28) rfl ?_); refine goesL_ (some 34) rfl rfl Try.func28 (by kernel_rfl) rfl #[.agg #[.slice Ao35 t211.length co35, .slice Ao40 t214.length co40], .agg #[.slice Ao21 t196.length co21, .slice Ao24 t199.length co24]] rfl (by (try simp only [List.map_toArray, List.map_cons, List.map_nil]); first | done | rfl | (simp only [List.length_drop, List.length_take]; rfl)) ?_; (with_reducible refine (laws_eqArray.calls k _ _ t211 _ _ t214 _ _ t196 _ _ t199 true _ ?side1 ?side2 ?side3 ?side4 ?side5 ?side6 ?side7 ?side8 A41.out).mono ?_); (case side1 => refine (Kd.R_reads' (e := 3) (base := w.heap.size) (ok := fun k_ => ((((((some k_ ≠ (.slice Ao40 t214.length co40 : Value).ownBlock ∧ some k_ ≠ (.slice Ao17 t190.length co17 : Value).ownBlock) ∧ some k_ ≠ (.slice Ao18 t193.length co18 : Value).ownBlock) ∧ some k_ ≠ (.slice Ao21 t196.length co21 : Value).ownBlock) ∧ some k_ ≠ (.slice Ao24 t199.length co24 : Value).ownBlock) ∧ some k_ ≠ (.slice Ao28 t204.length co28 : Value).ownBlock) ∧ some k_ ≠ (.slice Ao32 t207.length co32 : Value).ownBlock)) (n := t211.length) (c := co35) ?_).2.2; exact (by (with_reducible repeat (first | apply Kd.R_alloc | apply Kd.R_drewN | apply Kd.R_drew)); exact (Kd.R_mono (Kd.R_far (p := ⟨gb218, 1, none⟩) (Kd.R_far (p := ⟨gb218, 0, none⟩) (Kd.R_types HO213.out BK218.out (by decide)) (fun _ hk => hk.2) (.slice Ao35 t211.length co35)) (fun _ hk => hk.2) (.slice Ao40 t214.length co40)) (fun _ h_ => h_.1)))); (case side2 => exact (Kd.R_reads' HO213.out).2.1); (case side3 => refine (Kd.R_reads' (e := 3) (base := w.heap.size) (ok := fun k_ => ((((((some k_ ≠ (.slice Ao35 t211.length co35 : Value).ownBlock ∧ some k_ ≠ (.slice Ao17 t190.length co17 : Value).ownBlock) ∧ some k_ ≠ (.slice Ao18 t193.length co18 : Value).ownBlock) ∧ some k_ ≠ (.slice Ao21 t196.length co21 : Value).ownBlock) ∧ some k_ ≠ (.slice Ao24 t199.length co24 : Value).ownBlock) ∧ some k_ ≠ (.slice Ao28 t204.length co28 : Value).ownBlock) ∧ some k_ ≠ (.slice Ao32 t207.length co32 : Value).ownBlock)) (n := t214.length) (c := co40) ?_).2.2; exact (by (with_reducible repeat (first | apply Kd.R_alloc | apply Kd.R_drewN | apply Kd.R_drew)); exact (Kd.R_mono (Kd.R_far (p := ⟨gb218, 1, none⟩) (Kd.R_far (p := ⟨gb218, 0, none⟩) (Kd.R_types HO216.out BK218.out (by decide)) (fun _ hk => hk.2) (.slice Ao35 t211.length co35)) (fun _ hk => hk.2) (.slice Ao40 t214.length co40)) (fun _ h_ => h_.1)))); (case side4 => exact (Kd.R_reads' HO216.out).2.1); (case side5 => refine (Kd.R_reads' (e := 3) (base := w.heap.size) (ok := fun k_ => ((((((some k_ ≠ (.slice Ao24 t199.length co24 : Value).ownBlock ∧ some k_ ≠ (.slice Ao17 t190.length co17 : Value).ownBlock) ∧ some k_ ≠ (.slice Ao18 t193.length co18 : Value).ownBlock) ∧ some k_ ≠ (.slice Ao28 t204.length co28 : Value).ownBlock) ∧ some k_ ≠ (.slice Ao32 t207.length co32 : Value).ownBlock) ∧ some k_ ≠ (.slice Ao35 t211.length co35 : Value).ownBlock) ∧ some k_ ≠ (.slice Ao40 t214.length co40 : Value).ownBlock)) (n := t196.length) (c := co21) ?_).2.2; exact (by (with_reducible repeat (first | apply Kd.R_alloc | apply Kd.R_drewN | apply Kd.R_drew)); exact (Kd.R_mono (Kd.R_far (p := ⟨gb218, 1, none⟩) (Kd.R_far (p := ⟨gb218, 0, none⟩) (Kd.R_types HO198.out BK218.out (by decide)) (fun _ hk => hk.2) (.slice Ao35 t211.length co35)) (fun _ hk => hk.2) (.slice Ao40 t214.length co40)) (fun _ h_ => h_.1)))); (case side6 => exact (Kd.R_reads' HO198.out).2.1); (case side7 => refine (Kd.R_reads' (e := 3) (base := w.heap.size) (ok := fun k_ => ((((((some k_ ≠ (.slice Ao21 t196.length co21 : Value).ownBlock ∧ some k_ ≠ (.slice Ao17 t190.length co17 : Value).ownBlock) ∧ some k_ ≠ (.slice Ao18 t193.length co18 : Value).ownBlock) ∧ some k_ ≠ (.slice Ao28 t204.length co28 : Value).ownBlock) ∧ some k_ ≠ (.slice Ao32 t207.length co32 : Value).ownBlock) ∧ some k_ ≠ (.slice Ao35 t211.length co35 : Value).ownBlock) ∧ some k_ ≠ (.slice Ao40 t214.length co40 : Value).ownBlock)) (n := t199.length) (c := co24) ?_).2.2; exact (by (with_reducible repeat (first | apply Kd.R_alloc | apply Kd.R_drewN | apply Kd.R_drew)); exact (Kd.R_mono (Kd.R_far (p := ⟨gb218, 1, none⟩) (Kd.R_far (p := ⟨gb218, 0, none⟩) (Kd.R_types HO201.out BK218.out (by decide)) (fun _ hk => hk.2) (.slice Ao35 t211.length co35)) (fun _ hk => hk.2) (.slice Ao40 t214.length co40)) (fun _ h_ => h_.1)))); (case side8 => exact (Kd.R_reads' HO201.out).2.1); rintro e w50 ⟨rfl, hb⟩; refine ⟨_, rfl, ?_⟩; have n0_ := Aside0.mk (Kd.R_below (by (with_reducible repeat (first | apply Kd.R_alloc | apply Kd.R_drewN | apply Kd.R_drew)); exact (Kd.R_mono (Kd.R_far (p := ⟨gb218, 1, none⟩) (Kd.R_far (p := ⟨gb218, 0, none⟩) (Kd.R_types HO192.out BK218.out (by decide)) (fun _ hk => hk.2) (.slice Ao35 t211.length co35)) (fun _ hk => hk.2) (.slice Ao40 t214.length co40)) (fun _ h_ => h_.1))) hb); have n1_ := Aside0.mk (Kd.R_below (by (with_reducible repeat (first | apply Kd.R_alloc | apply Kd.R_drewN | apply Kd.R_drew)); exact (Kd.R_mono (Kd.R_far (p := ⟨gb218, 1, none⟩) (Kd.R_far (p := ⟨gb218, 0, none⟩) (Kd.R_types HO195.out BK218.out (by decide)) (fun _ hk => hk.2) (.slice Ao35 t211.length co35)) (fun _ hk => hk.2) (.slice Ao40 t214.length co40)) (fun _ h_ => h_.1))) hb); have n2_ := Aside0.mk (Kd.R_below (by (with_reducible repeat (first | apply Kd.R_alloc | apply Kd.R_drewN | apply Kd.R_drew)); exact (Kd.R_mono (Kd.R_far (p := ⟨gb218, 1, none⟩) (Kd.R_far (p := ⟨gb218, 0, none⟩) (Kd.R_types HO198.out BK218.out (by decide)) (fun _ hk => hk.2) (.slice Ao35 t211.length co35)) (fun _ hk => hk.2) (.slice Ao40 t214.length co40)) (fun _ h_ => h_.1))) hb); have n3_ := Aside0.mk (Kd.R_below (by (with_reducible repeat (first | apply Kd.R_alloc | apply Kd.R_drewN | apply Kd.R_drew)); exact (Kd.R_mono (Kd.R_far (p := ⟨gb218, 1, none⟩) (Kd.R_far (p := ⟨gb218, 0, none⟩) (Kd.R_types HO201.out BK218.out (by decide)) (fun _ hk => hk.2) (.slice Ao35 t211.length co35)) (fun _ hk => hk.2) (.slice Ao40 t214.length co40)) (fun _ h_ => h_.1))) hb); have n4_ := Aside0.mk (Kd.R_below (by (with_reducible repeat (first | apply Kd.R_alloc | apply Kd.R_drewN | apply Kd.R_drew)); exact (Kd.R_mono (Kd.R_far (p := ⟨gb218, 1, none⟩) (Kd.R_far (p := ⟨gb218, 0, none⟩) (Kd.R_types HO206.out BK218.out (by decide)) (fun _ hk => hk.2) (.slice Ao35 t211.length co35)) (fun _ hk => hk.2) (.slice Ao40 t214.length co40)) (fun _ h_ => h_.1))) hb); have n5_ := Aside0.mk (Kd.R_below (by (with_reducible repeat (first | apply Kd.R_alloc | apply Kd.R_drewN | apply Kd.R_drew)); exact (Kd.R_mono (Kd.R_far (p := ⟨gb218, 1, none⟩) (Kd.R_far (p := ⟨gb218, 0, none⟩) (Kd.R_types HO209.out BK218.out (by decide)) (fun _ hk => hk.2) (.slice Ao35 t211.length co35)) (fun _ hk => hk.2) (.slice Ao40 t214.length co40)) (fun _ h_ => h_.1))) hb); have n6_ := Aside0.mk (Kd.R_below (by (with_reducible repeat (first | apply Kd.R_alloc | apply Kd.R_drewN | apply Kd.R_drew)); exact (Kd.R_mono (Kd.R_far (p := ⟨gb218, 1, none⟩) (Kd.R_far (p := ⟨gb218, 0, none⟩) (Kd.R_types HO213.out BK218.out (by decide)) (fun _ hk => hk.2) (.slice Ao35 t211.length co35)) (fun _ hk => hk.2) (.slice Ao40 t214.length co40)) (fun _ h_ => h_.1))) hb); have n7_ := Aside0.mk (Kd.R_below (by (with_reducible repeat (first | apply Kd.R_alloc | apply Kd.R_drewN | apply Kd.R_drew)); exact (Kd.R_mono (Kd.R_far (p := ⟨gb218, 1, none⟩) (Kd.R_far (p := ⟨gb218, 0, none⟩) (Kd.R_types HO216.out BK218.out (by decide)) (fun _ hk => hk.2) (.slice Ao35 t211.length co35)) (fun _ hk => hk.2) (.slice Ao40 t214.length co40)) (fun _ h_ => h_.1))) hb); have n8_ := Aside0.mk (blk_below (g := gb188) (o := .cells #[.slice A0_0 l0_0.length c0_0, .slice A0_1 l0_1.length c0_1] 37 (0, 0)) (by (with_reducible repeat (first | refine blk_drewN ?_ _ | refine blk_drew ?_ | refine blk_alloc ?_ _)); refine blk_far ?_ NB188_218.out _; (with_reducible repeat (first | refine blk_drewN ?_ _ | refine blk_drew ?_ | refine blk_alloc ?_ _)); refine blk_far ?_ NB188_218.out _; (with_reducible repeat (first | refine blk_drewN ?_ _ | refine blk_drew ?_ | refine blk_alloc ?_ _)); exact BK188.out) hb); have n9_ := Aside0.mk (blk_below (g := gb203) (o := .cells #[.slice Ao21 t196.length co21, .slice Ao24 t199.length co24] 26 (0, 0)) (by (with_reducible repeat (first | refine blk_drewN ?_ _ | refine blk_drew ?_ | refine blk_alloc ?_ _)); refine blk_far ?_ NB203_218.out _; (with_reducible repeat (first | refine blk_drewN ?_ _ | refine blk_drew ?_ | refine blk_alloc ?_ _)); refine blk_far ?_ NB203_218.out _; (with_reducible repeat (first | refine blk_drewN ?_ _ | refine blk_drew ?_ | refine blk_alloc ?_ _)); exact BK203.out) hb); have n10_ := Aside0.mk (blk_below (g := gb210) (o := .cells #[.slice Ao28 t204.length co28, .slice Ao32 t207.length co32] 26 (0, 0)) (by (with_reducible repeat (first | refine blk_drewN ?_ _ | refine blk_drew ?_ | refine blk_alloc ?_ _)); refine blk_far ?_ NB210_218.out _; (with_reducible repeat (first | refine blk_drewN ?_ _ | refine blk_drew ?_ | refine blk_alloc ?_ _)); refine blk_far ?_ NB210_218.out _; (with_reducible repeat (first | refine blk_drewN ?_ _ | refine blk_drew ?_ | refine blk_alloc ?_ _)); exact BK210.out) hb); have n11_ := Aside0.mk (blk_below (g := gb218) (o := .cells #[.slice Ao35 t211.length co35, .slice Ao40 t214.length co40] 26 (0, 0)) (by (with_reducible repeat (first | refine blk_drewN ?_ _ | refine blk_drew ?_ | refine blk_alloc ?_ _)); refine blk_put (cs := #[.slice Ao35 t211.length co35, .slice none 0 0]) ?_ 1 _ rfl; (with_reducible repeat (first | refine blk_drewN ?_ _ | refine blk_drew ?_ | refine blk_alloc ?_ _)); refine blk_put (cs := #[.slice none 0 0, .slice none 0 0]) ?_ 0 _ rfl; (with_reducible repeat (first | refine blk_drewN ?_ _ | refine blk_drew ?_ | refine blk_alloc ?_ _)); exact BK218.out) hb); have n12_ := Aside0.mk (below_step (by repeat (first | (with_reducible first | exact HB.out | apply below_alloc | apply pw_below_drewN | apply below_drew1 | refine below_set ?_ GE188.out | refine below_set ?_ GE203.out | refine below_set ?_ GE210.out | refine below_set ?_ GE218.out) | exact HB.out)) hb); clear HO192; clear HO195; clear HO198; clear HO201; clear HO206; clear HO209; clear HO213; clear HO216; clear BK188; clear BK203; clear BK210; clear BK218; clear HB; have HO192 := n0_; have HO195 := n1_; have HO198 := n2_; have HO201 := n3_; have HO206 := n4_; have HO209 := n5_; have HO213 := n6_; have HO216 := n7_; have BK188 := n8_; have BK203 := n9_; have BK210 := n10_; have BK218 := n11_; have HB := n12_; clear n0_ n1_ n2_ n3_ n4_ n5_ n6_ n7_ n8_ n9_ n10_ n11_ n12_; (try clear hb); (try clear hb2); (try clear hk); (try clear hi)))
        go_meet
        case rel => exact ⟨_, ((t217 != t202)), (by first | rfl | (simp; done) | (simp [*]; done)), H', ⟨by first | omega | exact Nat.le_refl _⟩, ⟨by (with_reducible repeat (first | apply Kd.R_alloc | apply Kd.R_drewN | apply Kd.R_drew)); exact Kd.R_mono HO198.out (fun _ hk => ⟨hk.1.1.1.1.1.1, ⟨hk.1.1.1.2, ⟨hk.1.1.2, ⟨hk.1.2, hk.2⟩⟩⟩⟩)⟩, ⟨by (with_reducible repeat (first | apply Kd.R_alloc | apply Kd.R_drewN | apply Kd.R_drew)); exact Kd.R_mono HO201.out (fun _ hk => ⟨hk.1.1.1.1.1.1, ⟨hk.1.1.1.2, ⟨hk.1.1.2, ⟨hk.1.2, hk.2⟩⟩⟩⟩)⟩, ⟨by (with_reducible repeat (first | apply Kd.R_alloc | apply Kd.R_drewN | apply Kd.R_drew)); exact Kd.R_mono HO206.out (fun _ hk => ⟨hk.1.1.1.2, ⟨hk.1.1.2, ⟨hk.1.1.1.1.1.1, ⟨hk.1.2, hk.2⟩⟩⟩⟩)⟩, ⟨by (with_reducible repeat (first | apply Kd.R_alloc | apply Kd.R_drewN | apply Kd.R_drew)); exact Kd.R_mono HO209.out (fun _ hk => ⟨hk.1.1.1.2, ⟨hk.1.1.2, ⟨hk.1.1.1.1.1.1, ⟨hk.1.2, hk.2⟩⟩⟩⟩)⟩, ⟨by (with_reducible repeat (first | apply Kd.R_alloc | apply Kd.R_drewN | apply Kd.R_drew)); exact Kd.R_mono HO213.out (fun _ hk => ⟨hk.1.1.1.2, ⟨hk.1.1.2, ⟨hk.1.2, ⟨hk.2, hk.1.1.1.1.1.1⟩⟩⟩⟩)⟩, ⟨by (with_reducible repeat (first | apply Kd.R_alloc | apply Kd.R_drewN | apply Kd.R_drew)); exact Kd.R_mono HO216.out (fun _ hk => ⟨hk.1.1.1.2, ⟨hk.1.1.2, ⟨hk.1.2, ⟨hk.2, hk.1.1.1.1.1.1⟩⟩⟩⟩)⟩, ⟨by (with_reducible repeat (first | refine blk_drewN ?_ _ | refine blk_drew ?_ | refine blk_alloc ?_ _)); exact BK188.out⟩, ⟨by (with_reducible repeat (first | refine blk_drewN ?_ _ | refine blk_drew ?_ | refine blk_alloc ?_ _)); exact BK203.out⟩, ⟨by (with_reducible repeat (first | refine blk_drewN ?_ _ | refine blk_drew ?_ | refine blk_alloc ?_ _)); exact BK210.out⟩, ⟨by (with_reducible repeat (first | refine blk_drewN ?_ _ | refine blk_drew ?_ | refine blk_alloc ?_ _)); exact BK218.out⟩, ⟨by repeat (first | (with_reducible first | exact HB.out | apply below_alloc | apply pw_below_drewN | apply below_drew1 | refine below_set ?_ GE188.out | refine below_set ?_ GE203.out | refine below_set ?_ GE210.out | refine below_set ?_ GE218.out) | exact HB.out)⟩⟩
      · replace c42 := Bool.eq_false_iff.mpr c42
        subst c42
        have H1 : (laws_FnExactShapeOf.j0 k t202 t217 true l0_0 l0_1 t196 t199 t204 t207 t211 t214) = some r := by rw [if_neg (show ¬ (false = true) by decide)] at H; exact H
        clear H
        have H := H1
        clear H1
        have hz_ : ∀ kz, laws_FnExactShapeOf.j0 kz t202 t217 true l0_0 l0_1 t196 t199 t204 t207 t211 t214 = some r → r = false := by intro kz hz; cases kz with | zero => exact absurd hz (by simp [laws_FnExactShapeOf.j0]) | succ kz => simp only [laws_FnExactShapeOf.j0] at hz; first | (rw [if_pos rfl] at hz; exact (Option.some.inj hz).symm) | (simp at hz; exact hz.symm) | (simp at hz; exact hz)
        exact absurd (HT.out.symm.trans (hz_ _ H)) (by decide)
    case rest =>
      clear HC11
      try clear c2
      try clear p2
      try clear c3
      try clear c3b0
      try clear c4
      try clear c6
      try clear c22
      try clear c23
      try clear c25
      try clear c28
      try clear c29
      try clear c30
      try clear c34
      try clear c35
      try clear c36
      try clear c37
      try clear c38
      try clear c42
      try clear c43
      try clear c44
      try clear c45
      try clear c47
      try clear c48
      try clear hcz13_0
      try clear hcz13_1
      try clear hcz15_0
      try clear hcz15_1
      try clear hcz23_0
      try clear hcz23_1
      try clear hcz25_0
      try clear hcz25_1
      try clear hcz31_0
      try clear hcz31_1
      try clear hcz39_0
      try clear hcz39_1
      try clear hcz46_0
      try clear hcz46_1
      try clear hcz49_0
      try clear hcz49_1
      try clear hcz5_0
      try clear hcz5_1
      try clear hfz13_0
      try clear hfz13_1
      try clear hfz15_0
      try clear hfz15_1
      try clear hfz23_0
      try clear hfz23_1
      try clear hfz25_0
      try clear hfz25_1
      try clear hfz31_0
      try clear hfz31_1
      try clear hfz39_0
      try clear hfz39_1
      try clear hfz46_0
      try clear hfz46_1
      try clear hfz49_0
      try clear hfz49_1
      try clear hfz5_0
      try clear hfz5_1
      obtain ⟨kq, x40_10, rfl, HA, HJ10, HO_204000, HO_204001, HO_211000, HO_211001, HO_219000, HO_219001, BK188, BK203, BK210, BK218, HB⟩ := hcut
      cases kq with
      | zero => exact absurd HA.out (by simp [laws_FnExactShapeOf.j0])
      | succ kj10 =>
        have H := HA.out
        clear HA
        simp only [laws_FnExactShapeOf.j0] at H
        by_cases c51 : x40_10 = true
        · subst c51
          have H1 : (some false) = some r := by rw [if_pos rfl] at H; exact H
          clear H
          have H := H1
          clear H1
          obtain rfl := Option.some.inj H
          exact absurd HT.out (by decide)
        · replace c51 := Bool.eq_false_iff.mpr c51
          subst c51
          have H1 : ((laws_toArray.f kj10 l0_0 l0_1).bind fun bt220 => ((laws_eqArray.f kj10 t204 t207 bt220.1 bt220.2).bind fun t226 => (if t226 = true then ((laws_markArray.f kj10 t204 t207 1).bind fun bt227 => (if bt227.1 < 0 then (laws_FnExactShapeOf.j1 kj10 t202 true l0_0 l0_1 t196 t199 t211 t214) else ((laws_eqArray.f kj10 t211 t214 t196 t199).bind fun t230 => (if t230 = true then (laws_FnExactShapeOf.j1 kj10 t202 (t217 != t202) l0_0 l0_1 t196 t199 t211 t214) else (laws_FnExactShapeOf.j1 kj10 t202 true l0_0 l0_1 t196 t199 t211 t214))))) else (some false)))) = some r := by rw [if_neg (show ¬ (false = true) by decide)] at H; exact H
          clear H
          have H := H1
          clear H1
          replace H := Option.bind_eq_some_iff.mp H
          obtain ⟨⟨t220, t223⟩, A520, H⟩ := H
          replace H : ((laws_eqArray.f kj10 t204 t207 t220 t223).bind fun t226 => (if t226 = true then ((laws_markArray.f kj10 t204 t207 1).bind fun bt227 => (if bt227.1 < 0 then (laws_FnExactShapeOf.j1 kj10 t202 true l0_0 l0_1 t196 t199 t211 t214) else ((laws_eqArray.f kj10 t211 t214 t196 t199).bind fun t230 => (if t230 = true then (laws_FnExactShapeOf.j1 kj10 t202 (t217 != t202) l0_0 l0_1 t196 t199 t211 t214) else (laws_FnExactShapeOf.j1 kj10 t202 true l0_0 l0_1 t196 t199 t211 t214))))) else (some false))) = some r := H
          have A52 := Aside0.mk A520
          clear A520
          replace H := Option.bind_eq_some_iff.mp H
          obtain ⟨t226, A530, H⟩ := H
          replace H : (if t226 = true then ((laws_markArray.f kj10 t204 t207 1).bind fun bt227 => (if bt227.1 < 0 then (laws_FnExactShapeOf.j1 kj10 t202 true l0_0 l0_1 t196 t199 t211 t214) else ((laws_eqArray.f kj10 t211 t214 t196 t199).bind fun t230 => (if t230 = true then (laws_FnExactShapeOf.j1 kj10 t202 (t217 != t202) l0_0 l0_1 t196 t199 t211 t214) else (laws_FnExactShapeOf.j1 kj10 t202 true l0_0 l0_1 t196 t199 t211 t214))))) else (some false)) = some r := H
          have A53 := Aside0.mk A530
          clear A530
          by_cases c54 : t226 = true
          · subst c54
            have H1 : ((laws_markArray.f kj10 t204 t207 1).bind fun bt227 => (if bt227.1 < 0 then (laws_FnExactShapeOf.j1 kj10 t202 true l0_0 l0_1 t196 t199 t211 t214) else ((laws_eqArray.f kj10 t211 t214 t196 t199).bind fun t230 => (if t230 = true then (laws_FnExactShapeOf.j1 kj10 t202 (t217 != t202) l0_0 l0_1 t196 t199 t211 t214) else (laws_FnExactShapeOf.j1 kj10 t202 true l0_0 l0_1 t196 t199 t211 t214))))) = some r := by rw [if_pos rfl] at H; exact H
            clear H
            have H := H1
            clear H1
            replace H := Option.bind_eq_some_iff.mp H
            obtain ⟨⟨t227, t228, t229⟩, A550, H⟩ := H
            replace H : (if t227 < 0 then (laws_FnExactShapeOf.j1 kj10 t202 true l0_0 l0_1 t196 t199 t211 t214) else ((laws_eqArray.f kj10 t211 t214 t196 t199).bind fun t230 => (if t230 = true then (laws_FnExactShapeOf.j1 kj10 t202 (t217 != t202) l0_0 l0_1 t196 t199 t211 t214) else (laws_FnExactShapeOf.j1 kj10 t202 true l0_0 l0_1 t196 t199 t211 t214)))) = some r := H
            have A55 := Aside0.mk A550
            clear A550
            have HC56 := Aside0.mk H
            clear H
            try go_wp2
            have n0_ := Aside0.mk (Kd.R_drew HO_204000.out)
            have n1_ := Aside0.mk (Kd.R_drew HO_204001.out)
            have n2_ := Aside0.mk (Kd.R_drew HO_211000.out)
            have n3_ := Aside0.mk (Kd.R_drew HO_211001.out)
            have n4_ := Aside0.mk (Kd.R_drew HO_219000.out)
            have n5_ := Aside0.mk (Kd.R_drew HO_219001.out)
            have n6_ := Aside0.mk (blk_drew BK188.out)
            have n7_ := Aside0.mk (blk_drew BK203.out)
            have n8_ := Aside0.mk (blk_drew BK210.out)
            have n9_ := Aside0.mk (blk_drew BK218.out)
            have n10_ := Aside0.mk (below_drew1 HB.out)
            clear HO_204000
            clear HO_204001
            clear HO_211000
            clear HO_211001
            clear HO_219000
            clear HO_219001
            clear BK188
            clear BK203
            clear BK210
            clear BK218
            clear HB
            have HO_204000 := n0_
            have HO_204001 := n1_
            have HO_211000 := n2_
            have HO_211001 := n3_
            have HO_219000 := n4_
            have HO_219001 := n5_
            have BK188 := n6_
            have BK203 := n7_
            have BK210 := n8_
            have BK218 := n9_
            have HB := n10_
            clear n0_ n1_ n2_ n3_ n4_ n5_ n6_ n7_ n8_ n9_ n10_
            refine start_ (n := 5) (S := fun w' => w'.cell? ⟨gb210, 0, none⟩ = some (.slice Ao28 t204.length co28) ∧ w'.cell? ⟨gb210, 1, none⟩ = some (.slice Ao32 t207.length co32) ∧ w'.cell? ⟨gb188, 0, none⟩ = some (.slice A0_0 l0_0.length c0_0) ∧ w'.cell? ⟨gb188, 1, none⟩ = some (.slice A0_1 l0_1.length c0_1)) (ds := []) #[false, false, false, false, false] (by kernel_rfl) rfl rfl ⟨(blk_cell BK210.out 0).trans rfl, (blk_cell BK210.out 1).trans rfl, (blk_cell BK188.out 0).trans rfl, (blk_cell BK188.out 1).trans rfl⟩ (fun hHeld => ?_)
            generalize wc.drew = w57 at HO_204000 HO_204001 HO_211000 HO_211001 HO_219000 HO_219001 BK188 BK203 BK210 BK218 HB hHeld ⊢
            refine take_ (i := 0) (N := some 41) (v := ?_) (a' := ?_) #[true, false, false, false, false] rfl rfl (by kernel_rfl) (fun _ _ _ h => h) (Or.inl ⟨by rfl, ?_⟩) hHeld ?_ ?_
            rotate_left
            · rintro w' ⟨s0, s1, s2, s3⟩
              go_simp
              with_reducible rfl
            rotate_left
            · simp only [Act.put, List.setIfInBounds_toArray, List.set_cons_zero, List.set_cons_succ, i64_w, i32_w]
              rfl
            refine take_ (i := 1) (N := some 42) (v := ?_) (a' := ?_) #[true, true, false, false, false] rfl rfl (by kernel_rfl) (fun _ _ _ h => h) (Or.inl ⟨by rfl, ?_⟩) hHeld ?_ ?_
            rotate_left
            · rintro w' ⟨s0, s1, s2, s3⟩
              go_simp
              with_reducible rfl
            rotate_left
            · simp only [Act.put, List.setIfInBounds_toArray, List.set_cons_zero, List.set_cons_succ, i64_w, i32_w]
              rfl
            refine one_ (i := 2) (N := some 43) #[true, true, true, false, false] rfl rfl (by kernel_rfl) (by decide) (fun K hK => ?_)
            refine goes_ Try.func25 (by kernel_rfl) rfl #[.agg #[.slice A0_0 l0_0.length c0_0, .slice A0_1 l0_1.length c0_1]] (by rfl) rfl rfl (by (try simp only [List.map_toArray, List.map_cons, List.map_nil]); first | done | rfl | (simp only [List.length_drop, List.length_take]; rfl)) ?_
            with_reducible refine (laws_toArray.calls kj10 _ _ l0_0 _ _ l0_1 t220 t223 _ ?side1 ?side2 ?side3 ?side4 A52.out).mono ?_
            (case side1 => repeat (first | exact (Kd.C_below HR0_0.out HB.out) | (with_reducible refine Kd.C_alloc ?_ _) | (with_reducible refine Kd.C_drewN ?_ _) | (with_reducible refine Kd.C_drew ?_)))
            (case side2 => exact HC0_0.out)
            (case side3 => repeat (first | exact (Kd.C_below HR0_1.out HB.out) | (with_reducible refine Kd.C_alloc ?_ _) | (with_reducible refine Kd.C_drewN ?_ _) | (with_reducible refine Kd.C_drew ?_)))
            (case side4 => exact HC0_1.out)
            rintro e w58 ⟨v221, v224, rfl, ho0, ho1, hb⟩
            refine ⟨_, rfl, ?_⟩
            have n0_ := Aside0.mk (Kd.R_mono (Kd.R_told (Kd.R_told (Kd.R_old (by (with_reducible repeat (first | apply Kd.R_alloc | apply Kd.R_drewN | apply Kd.R_drew)); exact HO_204000.out) hb) (Kd.R_base ho0)) (Kd.R_base ho1)) (fun _ h_ => h_.1))
            have n1_ := Aside0.mk (Kd.R_mono (Kd.R_told (Kd.R_told (Kd.R_old (by (with_reducible repeat (first | apply Kd.R_alloc | apply Kd.R_drewN | apply Kd.R_drew)); exact HO_204001.out) hb) (Kd.R_base ho0)) (Kd.R_base ho1)) (fun _ h_ => h_.1))
            have n2_ := Aside0.mk (Kd.R_mono (Kd.R_told (Kd.R_told (Kd.R_old (by (with_reducible repeat (first | apply Kd.R_alloc | apply Kd.R_drewN | apply Kd.R_drew)); exact HO_211000.out) hb) (Kd.R_base ho0)) (Kd.R_base ho1)) (fun _ h_ => h_.1))
            have n3_ := Aside0.mk (Kd.R_mono (Kd.R_told (Kd.R_told (Kd.R_old (by (with_reducible repeat (first | apply Kd.R_alloc | apply Kd.R_drewN | apply Kd.R_drew)); exact HO_211001.out) hb) (Kd.R_base ho0)) (Kd.R_base ho1)) (fun _ h_ => h_.1))
            have n4_ := Aside0.mk (Kd.R_mono (Kd.R_told (Kd.R_told (Kd.R_old (by (with_reducible repeat (first | apply Kd.R_alloc | apply Kd.R_drewN | apply Kd.R_drew)); exact HO_219000.out) hb) (Kd.R_base ho0)) (Kd.R_base ho1)) (fun _ h_ => h_.1))
            have n5_ := Aside0.mk (Kd.R_mono (Kd.R_told (Kd.R_told (Kd.R_old (by (with_reducible repeat (first | apply Kd.R_alloc | apply Kd.R_drewN | apply Kd.R_drew)); exact HO_219001.out) hb) (Kd.R_base ho0)) (Kd.R_base ho1)) (fun _ h_ => h_.1))
            have n6_ := Aside0.mk (Kd.R_lower (Kd.R_new' (Kd.R_new' (Kd.R_new' (Kd.R_new' (Kd.R_new' (Kd.R_new' ho0 (Kd.R_lt (by (with_reducible repeat (first | apply Kd.R_alloc | apply Kd.R_drewN | apply Kd.R_drew)); exact HO_204000.out))) (Kd.R_lt (by (with_reducible repeat (first | apply Kd.R_alloc | apply Kd.R_drewN | apply Kd.R_drew)); exact HO_204001.out))) (Kd.R_lt (by (with_reducible repeat (first | apply Kd.R_alloc | apply Kd.R_drewN | apply Kd.R_drew)); exact HO_211000.out))) (Kd.R_lt (by (with_reducible repeat (first | apply Kd.R_alloc | apply Kd.R_drewN | apply Kd.R_drew)); exact HO_211001.out))) (Kd.R_lt (by (with_reducible repeat (first | apply Kd.R_alloc | apply Kd.R_drewN | apply Kd.R_drew)); exact HO_219000.out))) (Kd.R_lt (by (with_reducible repeat (first | apply Kd.R_alloc | apply Kd.R_drewN | apply Kd.R_drew)); exact HO_219001.out))) (below_size (by repeat (first | (with_reducible first | exact HB.out | apply below_alloc | apply pw_below_drewN | apply below_drew1 | refine below_set ?_ GE188.out | refine below_set ?_ GE203.out | refine below_set ?_ GE210.out | refine below_set ?_ GE218.out) | exact HB.out))))
            have n7_ := Aside0.mk (Kd.R_lower (Kd.R_new' (Kd.R_new' (Kd.R_new' (Kd.R_new' (Kd.R_new' (Kd.R_new' ho1 (Kd.R_lt (by (with_reducible repeat (first | apply Kd.R_alloc | apply Kd.R_drewN | apply Kd.R_drew)); exact HO_204000.out))) (Kd.R_lt (by (with_reducible repeat (first | apply Kd.R_alloc | apply Kd.R_drewN | apply Kd.R_drew)); exact HO_204001.out))) (Kd.R_lt (by (with_reducible repeat (first | apply Kd.R_alloc | apply Kd.R_drewN | apply Kd.R_drew)); exact HO_211000.out))) (Kd.R_lt (by (with_reducible repeat (first | apply Kd.R_alloc | apply Kd.R_drewN | apply Kd.R_drew)); exact HO_211001.out))) (Kd.R_lt (by (with_reducible repeat (first | apply Kd.R_alloc | apply Kd.R_drewN | apply Kd.R_drew)); exact HO_219000.out))) (Kd.R_lt (by (with_reducible repeat (first | apply Kd.R_alloc | apply Kd.R_drewN | apply Kd.R_drew)); exact HO_219001.out))) (below_size (by repeat (first | (with_reducible first | exact HB.out | apply below_alloc | apply pw_below_drewN | apply below_drew1 | refine below_set ?_ GE188.out | refine below_set ?_ GE203.out | refine below_set ?_ GE210.out | refine below_set ?_ GE218.out) | exact HB.out))))
            have n8_ := Aside0.mk (blk_below (g := gb188) (o := .cells #[.slice A0_0 l0_0.length c0_0, .slice A0_1 l0_1.length c0_1] 37 (0, 0)) (by (with_reducible repeat (first | refine blk_drewN ?_ _ | refine blk_drew ?_ | refine blk_alloc ?_ _)); exact BK188.out) hb)
            have n9_ := Aside0.mk (blk_below (g := gb203) (o := .cells #[.slice Ao21 t196.length co21, .slice Ao24 t199.length co24] 26 (0, 0)) (by (with_reducible repeat (first | refine blk_drewN ?_ _ | refine blk_drew ?_ | refine blk_alloc ?_ _)); exact BK203.out) hb)
            have n10_ := Aside0.mk (blk_below (g := gb210) (o := .cells #[.slice Ao28 t204.length co28, .slice Ao32 t207.length co32] 26 (0, 0)) (by (with_reducible repeat (first | refine blk_drewN ?_ _ | refine blk_drew ?_ | refine blk_alloc ?_ _)); exact BK210.out) hb)
            have n11_ := Aside0.mk (blk_below (g := gb218) (o := .cells #[.slice Ao35 t211.length co35, .slice Ao40 t214.length co40] 26 (0, 0)) (by (with_reducible repeat (first | refine blk_drewN ?_ _ | refine blk_drew ?_ | refine blk_alloc ?_ _)); exact BK218.out) hb)
            have n12_ := Aside0.mk (below_step (by repeat (first | (with_reducible first | exact HB.out | apply below_alloc | apply pw_below_drewN | apply below_drew1 | refine below_set ?_ GE188.out | refine below_set ?_ GE203.out | refine below_set ?_ GE210.out | refine below_set ?_ GE218.out) | exact HB.out)) hb)
            clear HO_204000
            clear HO_204001
            clear HO_211000
            clear HO_211001
            clear HO_219000
            clear HO_219001
            clear BK188
            clear BK203
            clear BK210
            clear BK218
            clear HB
            have HO_204000 := n0_
            have HO_204001 := n1_
            have HO_211000 := n2_
            have HO_211001 := n3_
            have HO_219000 := n4_
            have HO_219001 := n5_
            have HO222 := n6_
            have HO225 := n7_
            have BK188 := n8_
            have BK203 := n9_
            have BK210 := n10_
            have BK218 := n11_
            have HB := n12_
            clear n0_ n1_ n2_ n3_ n4_ n5_ n6_ n7_ n8_ n9_ n10_ n11_ n12_
            (try clear hb)
            (try clear hb2)
            (try clear hk)
            (try clear hi)
            (try clear ho0)
            (try clear ho1)
            obtain ⟨Ao59, co59, eo59⟩ := Kd.R_slice HO222.out
            (first | subst eo59 | (injection eo59 with f1_ f2_ f3_; have f4_ := f1_.symm; have f5_ := f3_.symm; clear f1_ f2_ f3_; subst f4_; subst f5_))
            obtain ⟨Ao60, co60, eo60⟩ := Kd.R_slice HO225.out
            (first | subst eo60 | (injection eo60 with f1_ f2_ f3_; have f4_ := f1_.symm; have f5_ := f3_.symm; clear f1_ f2_ f3_; subst f4_; subst f5_))
            refine hK.out _ _ ⟨(blk_cell BK210.out 0).trans rfl, (blk_cell BK210.out 1).trans rfl, (blk_cell BK188.out 0).trans rfl, (blk_cell BK188.out 1).trans rfl⟩ (fun hHeld => ?_)
            clear hK K
            refine norm_ (a' := ?_) ?_ ?_
            rotate_left
            · show Act.put _ (some 43) _ = _
              simp only [Act.put, List.setIfInBounds_toArray, List.set_cons_zero, List.set_cons_succ, i64_w, i32_w]
              rfl
            refine one_ (i := 3) (N := some 44) #[true, true, true, true, false] rfl rfl (by kernel_rfl) (by decide) (fun K hK => ?_)
            refine goes_ Try.func28 (by kernel_rfl) rfl #[.agg #[.slice Ao28 t204.length co28, .slice Ao32 t207.length co32], .agg #[.slice Ao59 t220.length co59, .slice Ao60 t223.length co60]] (by rfl) rfl rfl (by (try simp only [List.map_toArray, List.map_cons, List.map_nil]); first | done | rfl | (simp only [List.length_drop, List.length_take]; rfl)) ?_
            with_reducible refine (laws_eqArray.calls kj10 _ _ t204 _ _ t207 _ _ t220 _ _ t223 true _ ?side1 ?side2 ?side3 ?side4 ?side5 ?side6 ?side7 ?side8 A53.out).mono ?_
            (case side1 => repeat (first | exact (Kd.R_reads' HO_211000.out).2.2 | (with_reducible refine Kd.C_alloc ?_ _) | (with_reducible refine Kd.C_drewN ?_ _) | (with_reducible refine Kd.C_drew ?_)))
            (case side2 => exact (Kd.R_reads' HO_211000.out).2.1)
            (case side3 => repeat (first | exact (Kd.R_reads' HO_211001.out).2.2 | (with_reducible refine Kd.C_alloc ?_ _) | (with_reducible refine Kd.C_drewN ?_ _) | (with_reducible refine Kd.C_drew ?_)))
            (case side4 => exact (Kd.R_reads' HO_211001.out).2.1)
            (case side5 => repeat (first | exact (Kd.R_reads' HO222.out).2.2 | (with_reducible refine Kd.C_alloc ?_ _) | (with_reducible refine Kd.C_drewN ?_ _) | (with_reducible refine Kd.C_drew ?_)))
            (case side6 => exact (Kd.R_reads' HO222.out).2.1)
            (case side7 => repeat (first | exact (Kd.R_reads' HO225.out).2.2 | (with_reducible refine Kd.C_alloc ?_ _) | (with_reducible refine Kd.C_drewN ?_ _) | (with_reducible refine Kd.C_drew ?_)))
            (case side8 => exact (Kd.R_reads' HO225.out).2.1)
            rintro e w61 ⟨rfl, hb⟩
            refine ⟨_, rfl, ?_⟩
            have n0_ := Aside0.mk (Kd.R_below (by (with_reducible repeat (first | apply Kd.R_alloc | apply Kd.R_drewN | apply Kd.R_drew)); exact HO_204000.out) hb)
            have n1_ := Aside0.mk (Kd.R_below (by (with_reducible repeat (first | apply Kd.R_alloc | apply Kd.R_drewN | apply Kd.R_drew)); exact HO_204001.out) hb)
            have n2_ := Aside0.mk (Kd.R_below (by (with_reducible repeat (first | apply Kd.R_alloc | apply Kd.R_drewN | apply Kd.R_drew)); exact HO_211000.out) hb)
            have n3_ := Aside0.mk (Kd.R_below (by (with_reducible repeat (first | apply Kd.R_alloc | apply Kd.R_drewN | apply Kd.R_drew)); exact HO_211001.out) hb)
            have n4_ := Aside0.mk (Kd.R_below (by (with_reducible repeat (first | apply Kd.R_alloc | apply Kd.R_drewN | apply Kd.R_drew)); exact HO_219000.out) hb)
            have n5_ := Aside0.mk (Kd.R_below (by (with_reducible repeat (first | apply Kd.R_alloc | apply Kd.R_drewN | apply Kd.R_drew)); exact HO_219001.out) hb)
            have n6_ := Aside0.mk (Kd.R_below (by (with_reducible repeat (first | apply Kd.R_alloc | apply Kd.R_drewN | apply Kd.R_drew)); exact HO222.out) hb)
            have n7_ := Aside0.mk (Kd.R_below (by (with_reducible repeat (first | apply Kd.R_alloc | apply Kd.R_drewN | apply Kd.R_drew)); exact HO225.out) hb)
            have n8_ := Aside0.mk (blk_below (g := gb188) (o := .cells #[.slice A0_0 l0_0.length c0_0, .slice A0_1 l0_1.length c0_1] 37 (0, 0)) (by (with_reducible repeat (first | refine blk_drewN ?_ _ | refine blk_drew ?_ | refine blk_alloc ?_ _)); exact BK188.out) hb)
            have n9_ := Aside0.mk (blk_below (g := gb203) (o := .cells #[.slice Ao21 t196.length co21, .slice Ao24 t199.length co24] 26 (0, 0)) (by (with_reducible repeat (first | refine blk_drewN ?_ _ | refine blk_drew ?_ | refine blk_alloc ?_ _)); exact BK203.out) hb)
            have n10_ := Aside0.mk (blk_below (g := gb210) (o := .cells #[.slice Ao28 t204.length co28, .slice Ao32 t207.length co32] 26 (0, 0)) (by (with_reducible repeat (first | refine blk_drewN ?_ _ | refine blk_drew ?_ | refine blk_alloc ?_ _)); exact BK210.out) hb)
            have n11_ := Aside0.mk (blk_below (g := gb218) (o := .cells #[.slice Ao35 t211.length co35, .slice Ao40 t214.length co40] 26 (0, 0)) (by (with_reducible repeat (first | refine blk_drewN ?_ _ | refine blk_drew ?_ | refine blk_alloc ?_ _)); exact BK218.out) hb)
            have n12_ := Aside0.mk (below_step (by repeat (first | (with_reducible first | exact HB.out | apply below_alloc | apply pw_below_drewN | apply below_drew1 | refine below_set ?_ GE188.out | refine below_set ?_ GE203.out | refine below_set ?_ GE210.out | refine below_set ?_ GE218.out) | exact HB.out)) hb)
            clear HO_204000
            clear HO_204001
            clear HO_211000
            clear HO_211001
            clear HO_219000
            clear HO_219001
            clear HO222
            clear HO225
            clear BK188
            clear BK203
            clear BK210
            clear BK218
            clear HB
            have HO_204000 := n0_
            have HO_204001 := n1_
            have HO_211000 := n2_
            have HO_211001 := n3_
            have HO_219000 := n4_
            have HO_219001 := n5_
            have HO222 := n6_
            have HO225 := n7_
            have BK188 := n8_
            have BK203 := n9_
            have BK210 := n10_
            have BK218 := n11_
            have HB := n12_
            clear n0_ n1_ n2_ n3_ n4_ n5_ n6_ n7_ n8_ n9_ n10_ n11_ n12_
            (try clear hb)
            (try clear hb2)
            (try clear hk)
            (try clear hi)
            refine hK.out _ _ ⟨(blk_cell BK210.out 0).trans rfl, (blk_cell BK210.out 1).trans rfl, (blk_cell BK188.out 0).trans rfl, (blk_cell BK188.out 1).trans rfl⟩ (fun hHeld => ?_)
            clear hK K
            refine norm_ (a' := ?_) ?_ ?_
            rotate_left
            · show Act.put _ (some 44) _ = _
              simp only [Act.put, List.setIfInBounds_toArray, List.set_cons_zero, List.set_cons_succ, i64_w, i32_w]
              rfl
            refine pure_ (i := 4) (N := some 45) (v := ?_) (a' := ?_) #[true, true, true, true, true] rfl rfl (by kernel_rfl) (fun _ _ _ h => h) (Or.inl ⟨by rfl, ?_⟩) ?_ ?_
            rotate_left
            · intro w'
              go_simp
              with_reducible rfl
            rotate_left
            · simp only [Act.put, List.setIfInBounds_toArray, List.set_cons_zero, List.set_cons_succ, i64_w, i32_w]
              rfl
            refine done_ (by kernel_rfl) ?_
            have hnb62 := NB210_188.out
            have hnc62 := NB188_210.out
            have hnb63 := NB210_203.out
            have hnc63 := NB203_210.out
            have hnb64 := NB210_218.out
            have hnc64 := NB218_210.out
            have hcz65_0 : w61.cell? ⟨gb210, 0, none⟩ = some (.slice Ao28 t204.length co28) := (blk_cell BK210.out 0).trans rfl
            have hcz65_1 : w61.cell? ⟨gb210, 1, none⟩ = some (.slice Ao32 t207.length co32) := (blk_cell BK210.out 1).trans rfl
            have hfz65_0 := blk_frozen BK210.out 0
            have hfz65_1 := blk_frozen BK210.out 1
            go_upto_region 14 with (first | ((with_reducible refine gate_callee (f := 32) rfl ?_); refine goesL_ (some 48) rfl rfl Try.func32 (by kernel_rfl) rfl #[.agg #[.slice Ao28 t204.length co28, .slice Ao32 t207.length co32], .int .i64 1] rfl (by (try simp only [List.map_toArray, List.map_cons, List.map_nil]); first | done | rfl | (simp only [List.length_drop, List.length_take]; rfl)) ?_; (with_reducible refine (laws_markArray.calls kj10 (fun k_ => some k_ = (.slice Ao28 t204.length co28 : Value).ownBlock) (.slice Ao28 t204.length co28) t204 (fun k_ => some k_ = (.slice Ao32 t207.length co32 : Value).ownBlock) (.slice Ao32 t207.length co32) t207 1 t227 t228 t229 w _ ?side1 ?side2 ?side3 ?side4 ?side5 A55.out).mono ?_); (case side1 => repeat (first | (with_reducible first | exact HB.out | apply below_alloc | apply pw_below_drewN | apply below_drew1 | refine below_set ?_ GE188.out | refine below_set ?_ GE203.out | refine below_set ?_ GE210.out | refine below_set ?_ GE218.out) | exact HB.out)); (case side2 => exact Kd.R_tight rfl HO_211000.out); (case side3 => exact fun k_ e_ => (HO_211000.out.1 k_ e_.symm).1.1.2.2.1); (case side4 => exact Kd.R_tight rfl HO_211001.out); (case side5 => exact fun k_ e_ => (HO_211001.out.1 k_ e_.symm).1.1.2.2.1); rintro e w66 ⟨rfl, hy0, hy1, hb, hkp⟩; refine ⟨_, rfl, ?_⟩; have n0_ := Aside0.mk (Kd.R_mono (ok' := fun k_ => some k_ ≠ (.slice Ao24 t199.length co24 : Value).ownBlock ∧ some k_ ≠ (.slice Ao28 t204.length co28 : Value).ownBlock ∧ some k_ ≠ (.slice Ao32 t207.length co32 : Value).ownBlock ∧ some k_ ≠ (.slice Ao35 t211.length co35 : Value).ownBlock ∧ some k_ ≠ (.slice Ao40 t214.length co40 : Value).ownBlock ∧ some k_ ≠ (.slice Ao59 t220.length co59 : Value).ownBlock ∧ some k_ ≠ (.slice Ao60 t223.length co60 : Value).ownBlock) (Kd.R_keptB (HO_204000.out) hkp (fun k_ hk_ hs_ => Or.elim hs_ (fun e_ => (hk_.1.1.2.1) e_) (fun e_ => (hk_.1.1.2.2.1) e_))) (fun k_ hk_ => ⟨hk_.1.1.1.1, hk_.1.1.1.2.1, hk_.1.1.1.2.2.1, hk_.1.1.1.2.2.2.1, hk_.1.1.1.2.2.2.2, hk_.1.1.2, hk_.1.2⟩)); have n1_ := Aside0.mk (Kd.R_mono (ok' := fun k_ => some k_ ≠ (.slice Ao21 t196.length co21 : Value).ownBlock ∧ some k_ ≠ (.slice Ao28 t204.length co28 : Value).ownBlock ∧ some k_ ≠ (.slice Ao32 t207.length co32 : Value).ownBlock ∧ some k_ ≠ (.slice Ao35 t211.length co35 : Value).ownBlock ∧ some k_ ≠ (.slice Ao40 t214.length co40 : Value).ownBlock ∧ some k_ ≠ (.slice Ao59 t220.length co59 : Value).ownBlock ∧ some k_ ≠ (.slice Ao60 t223.length co60 : Value).ownBlock) (Kd.R_keptB (HO_204001.out) hkp (fun k_ hk_ hs_ => Or.elim hs_ (fun e_ => (hk_.1.1.2.1) e_) (fun e_ => (hk_.1.1.2.2.1) e_))) (fun k_ hk_ => ⟨hk_.1.1.1.1, hk_.1.1.1.2.1, hk_.1.1.1.2.2.1, hk_.1.1.1.2.2.2.1, hk_.1.1.1.2.2.2.2, hk_.1.1.2, hk_.1.2⟩)); have n2_ := Aside0.mk (Kd.R_reok rfl hy0 (fun k_ e_ => HO_211000.out.1 k_ e_)); have n3_ := Aside0.mk (Kd.R_reok rfl hy1 (fun k_ e_ => HO_211001.out.1 k_ e_)); have n4_ := Aside0.mk (Kd.R_mono (ok' := fun k_ => some k_ ≠ (.slice Ao21 t196.length co21 : Value).ownBlock ∧ some k_ ≠ (.slice Ao24 t199.length co24 : Value).ownBlock ∧ some k_ ≠ (.slice Ao28 t204.length co28 : Value).ownBlock ∧ some k_ ≠ (.slice Ao32 t207.length co32 : Value).ownBlock ∧ some k_ ≠ (.slice Ao40 t214.length co40 : Value).ownBlock ∧ some k_ ≠ (.slice Ao59 t220.length co59 : Value).ownBlock ∧ some k_ ≠ (.slice Ao60 t223.length co60 : Value).ownBlock) (Kd.R_keptB (HO_219000.out) hkp (fun k_ hk_ hs_ => Or.elim hs_ (fun e_ => (hk_.1.1.2.2.1) e_) (fun e_ => (hk_.1.1.2.2.2.1) e_))) (fun k_ hk_ => ⟨hk_.1.1.1.1, hk_.1.1.1.2.1, hk_.1.1.1.2.2.1, hk_.1.1.1.2.2.2.1, hk_.1.1.1.2.2.2.2, hk_.1.1.2, hk_.1.2⟩)); have n5_ := Aside0.mk (Kd.R_mono (ok' := fun k_ => some k_ ≠ (.slice Ao21 t196.length co21 : Value).ownBlock ∧ some k_ ≠ (.slice Ao24 t199.length co24 : Value).ownBlock ∧ some k_ ≠ (.slice Ao28 t204.length co28 : Value).ownBlock ∧ some k_ ≠ (.slice Ao32 t207.length co32 : Value).ownBlock ∧ some k_ ≠ (.slice Ao35 t211.length co35 : Value).ownBlock ∧ some k_ ≠ (.slice Ao59 t220.length co59 : Value).ownBlock ∧ some k_ ≠ (.slice Ao60 t223.length co60 : Value).ownBlock) (Kd.R_keptB (HO_219001.out) hkp (fun k_ hk_ hs_ => Or.elim hs_ (fun e_ => (hk_.1.1.2.2.1) e_) (fun e_ => (hk_.1.1.2.2.2.1) e_))) (fun k_ hk_ => ⟨hk_.1.1.1.1, hk_.1.1.1.2.1, hk_.1.1.1.2.2.1, hk_.1.1.1.2.2.2.1, hk_.1.1.1.2.2.2.2, hk_.1.1.2, hk_.1.2⟩)); have n6_ := Aside0.mk (blk_kept (by (with_reducible repeat (first | refine blk_drewN ?_ _ | refine blk_drew ?_ | refine blk_alloc ?_ _)); exact BK188.out) hkp (fun hs_ => Or.elim hs_ (fun e_ => (fun e_ => (Kd.R_ne HO_211000.out BK188.out (by decide)) e_) e_) (fun e_ => (fun e_ => (Kd.R_ne HO_211001.out BK188.out (by decide)) e_) e_))); have n7_ := Aside0.mk (blk_kept (by (with_reducible repeat (first | refine blk_drewN ?_ _ | refine blk_drew ?_ | refine blk_alloc ?_ _)); exact BK203.out) hkp (fun hs_ => Or.elim hs_ (fun e_ => (fun e_ => (Kd.R_ne HO_211000.out BK203.out (by decide)) e_) e_) (fun e_ => (fun e_ => (Kd.R_ne HO_211001.out BK203.out (by decide)) e_) e_))); have n8_ := Aside0.mk (blk_kept (by (with_reducible repeat (first | refine blk_drewN ?_ _ | refine blk_drew ?_ | refine blk_alloc ?_ _)); exact BK210.out) hkp (fun hs_ => Or.elim hs_ (fun e_ => (fun e_ => (Kd.R_ne HO_211000.out BK210.out (by decide)) e_) e_) (fun e_ => (fun e_ => (Kd.R_ne HO_211001.out BK210.out (by decide)) e_) e_))); have n9_ := Aside0.mk (blk_kept (by (with_reducible repeat (first | refine blk_drewN ?_ _ | refine blk_drew ?_ | refine blk_alloc ?_ _)); exact BK218.out) hkp (fun hs_ => Or.elim hs_ (fun e_ => (fun e_ => (Kd.R_ne HO_211000.out BK218.out (by decide)) e_) e_) (fun e_ => (fun e_ => (Kd.R_ne HO_211001.out BK218.out (by decide)) e_) e_))); have n10_ := Aside0.mk (Kd.R_mono (ok' := fun k_ => some k_ ≠ (.slice Ao21 t196.length co21 : Value).ownBlock ∧ some k_ ≠ (.slice Ao24 t199.length co24 : Value).ownBlock ∧ some k_ ≠ (.slice Ao28 t204.length co28 : Value).ownBlock ∧ some k_ ≠ (.slice Ao32 t207.length co32 : Value).ownBlock ∧ some k_ ≠ (.slice Ao35 t211.length co35 : Value).ownBlock ∧ some k_ ≠ (.slice Ao40 t214.length co40 : Value).ownBlock ∧ some k_ ≠ (.slice Ao60 t223.length co60 : Value).ownBlock) (Kd.R_keptB (HO222.out) hkp (fun k_ hk_ hs_ => Or.elim hs_ (fun e_ => (hk_.1.1.1.2) e_) (fun e_ => (hk_.1.1.2) e_))) (fun k_ hk_ => ⟨hk_.1.1.1.1.1.1.2, hk_.1.1.1.1.1.2, hk_.1.1.1.1.2, hk_.1.1.1.2, hk_.1.1.2, hk_.1.2, hk_.1.1.1.1.1.1.1⟩)); have n11_ := Aside0.mk (Kd.R_mono (ok' := fun k_ => some k_ ≠ (.slice Ao21 t196.length co21 : Value).ownBlock ∧ some k_ ≠ (.slice Ao24 t199.length co24 : Value).ownBlock ∧ some k_ ≠ (.slice Ao28 t204.length co28 : Value).ownBlock ∧ some k_ ≠ (.slice Ao32 t207.length co32 : Value).ownBlock ∧ some k_ ≠ (.slice Ao35 t211.length co35 : Value).ownBlock ∧ some k_ ≠ (.slice Ao40 t214.length co40 : Value).ownBlock ∧ some k_ ≠ (.slice Ao59 t220.length co59 : Value).ownBlock) (Kd.R_keptB (HO225.out) hkp (fun k_ hk_ hs_ => Or.elim hs_ (fun e_ => (hk_.1.1.1.2) e_) (fun e_ => (hk_.1.1.2) e_))) (fun k_ hk_ => ⟨hk_.1.1.1.1.1.1.2, hk_.1.1.1.1.1.2, hk_.1.1.1.1.2, hk_.1.1.1.2, hk_.1.1.2, hk_.1.2, hk_.1.1.1.1.1.1.1⟩)); have n12_ := Aside0.mk (hb); clear HO_204000; clear HO_204001; clear HO_211000; clear HO_211001; clear HO_219000; clear HO_219001; clear BK188; clear BK203; clear BK210; clear BK218; clear HO222; clear HO225; clear HB; have HO_204000 := n0_; have HO_204001 := n1_; have HO_211000 := n2_; have HO_211001 := n3_; have HO_219000 := n4_; have HO_219001 := n5_; have BK188 := n6_; have BK203 := n7_; have BK210 := n8_; have BK218 := n9_; have HO222 := n10_; have HO225 := n11_; have HB := n12_; clear n0_ n1_ n2_ n3_ n4_ n5_ n6_ n7_ n8_ n9_ n10_ n11_ n12_; (try clear hb); (try clear hkp); (try clear hy0); (try clear hy1)))
            (try simp only [Act.put, List.setIfInBounds_toArray, List.set_cons_zero, List.set_cons_succ])
            go_cut [61] (fun v61 wc => ∃ (kq : Nat) (x61_55 : Bool), v61 = .bool x61_55 ∧ Aside0 (laws_FnExactShapeOf.j1 kq t202 x61_55 l0_0 l0_1 t196 t199 t211 t214 = some r) ∧ Aside0 (kq ≤ kj10) ∧ Aside0 (Kd.R (Kd.int .i64) 3 wc w.heap.size (fun k_ => some k_ ≠ ((.slice Ao24 t199.length co24) : Value).ownBlock ∧ some k_ ≠ ((.slice Ao28 t204.length co28) : Value).ownBlock ∧ some k_ ≠ ((.slice Ao32 t207.length co32) : Value).ownBlock ∧ some k_ ≠ ((.slice Ao35 t211.length co35) : Value).ownBlock ∧ some k_ ≠ ((.slice Ao40 t214.length co40) : Value).ownBlock) (.slice Ao21 t196.length co21) t196) ∧ Aside0 (Kd.R (Kd.int .i64) 3 wc w.heap.size (fun k_ => some k_ ≠ ((.slice Ao21 t196.length co21) : Value).ownBlock ∧ some k_ ≠ ((.slice Ao28 t204.length co28) : Value).ownBlock ∧ some k_ ≠ ((.slice Ao32 t207.length co32) : Value).ownBlock ∧ some k_ ≠ ((.slice Ao35 t211.length co35) : Value).ownBlock ∧ some k_ ≠ ((.slice Ao40 t214.length co40) : Value).ownBlock) (.slice Ao24 t199.length co24) t199) ∧ Aside0 (Kd.R (Kd.int .i64) 3 wc w.heap.size (fun k_ => some k_ ≠ ((.slice Ao21 t196.length co21) : Value).ownBlock ∧ some k_ ≠ ((.slice Ao24 t199.length co24) : Value).ownBlock ∧ some k_ ≠ ((.slice Ao32 t207.length co32) : Value).ownBlock ∧ some k_ ≠ ((.slice Ao35 t211.length co35) : Value).ownBlock ∧ some k_ ≠ ((.slice Ao40 t214.length co40) : Value).ownBlock) (.slice Ao28 t204.length co28) t228) ∧ Aside0 (Kd.R (Kd.int .i64) 3 wc w.heap.size (fun k_ => some k_ ≠ ((.slice Ao21 t196.length co21) : Value).ownBlock ∧ some k_ ≠ ((.slice Ao24 t199.length co24) : Value).ownBlock ∧ some k_ ≠ ((.slice Ao28 t204.length co28) : Value).ownBlock ∧ some k_ ≠ ((.slice Ao35 t211.length co35) : Value).ownBlock ∧ some k_ ≠ ((.slice Ao40 t214.length co40) : Value).ownBlock) (.slice Ao32 t207.length co32) t229) ∧ Aside0 (Kd.R (Kd.int .i64) 3 wc w.heap.size (fun k_ => some k_ ≠ ((.slice Ao21 t196.length co21) : Value).ownBlock ∧ some k_ ≠ ((.slice Ao24 t199.length co24) : Value).ownBlock ∧ some k_ ≠ ((.slice Ao28 t204.length co28) : Value).ownBlock ∧ some k_ ≠ ((.slice Ao32 t207.length co32) : Value).ownBlock ∧ some k_ ≠ ((.slice Ao40 t214.length co40) : Value).ownBlock) (.slice Ao35 t211.length co35) t211) ∧ Aside0 (Kd.R (Kd.int .i64) 3 wc w.heap.size (fun k_ => some k_ ≠ ((.slice Ao21 t196.length co21) : Value).ownBlock ∧ some k_ ≠ ((.slice Ao24 t199.length co24) : Value).ownBlock ∧ some k_ ≠ ((.slice Ao28 t204.length co28) : Value).ownBlock ∧ some k_ ≠ ((.slice Ao32 t207.length co32) : Value).ownBlock ∧ some k_ ≠ ((.slice Ao35 t211.length co35) : Value).ownBlock) (.slice Ao40 t214.length co40) t214) ∧ Aside0 (wc.heap[gb188]? = some (.cells #[(.slice A0_0 l0_0.length c0_0), (.slice A0_1 l0_1.length c0_1)] 37 (0, 0))) ∧ Aside0 (wc.heap[gb203]? = some (.cells #[(.slice Ao21 t196.length co21), (.slice Ao24 t199.length co24)] 26 (0, 0))) ∧ Aside0 (wc.heap[gb210]? = some (.cells #[(.slice Ao28 t204.length co28), (.slice Ao32 t207.length co32)] 26 (0, 0))) ∧ Aside0 (wc.heap[gb218]? = some (.cells #[(.slice Ao35 t211.length co35), (.slice Ao40 t214.length co40)] 26 (0, 0))) ∧ Aside0 (Below w.heap.size w wc))
            case first =>
              have H := HC56.out
              clear HC56
              by_cases c67 : t227 < 0
              · rw [if_pos c67] at H
                have c67b0 : decide (t227 < 0) = true := decide_eq_true c67
                clear c67
                (first | rw [c67b0] | (simp only [i64_w, i32_w]; rw [c67b0]) | skip)
                have hz_ : ∀ kz, laws_FnExactShapeOf.j1 kz t202 true l0_0 l0_1 t196 t199 t211 t214 = some r → r = false := by intro kz hz; cases kz with | zero => exact absurd hz (by simp [laws_FnExactShapeOf.j1]) | succ kz => simp only [laws_FnExactShapeOf.j1] at hz; first | (rw [if_pos rfl] at hz; exact (Option.some.inj hz).symm) | (simp at hz; exact hz.symm) | (simp at hz; exact hz)
                exact absurd (HT.out.symm.trans (hz_ _ H)) (by decide)
              · rw [if_neg c67] at H
                have c67b0 : decide (t227 < 0) = false := decide_eq_false c67
                clear c67
                (first | rw [c67b0] | (simp only [i64_w, i32_w]; rw [c67b0]) | skip)
                replace H := Option.bind_eq_some_iff.mp H
                obtain ⟨t230, A680, H⟩ := H
                replace H : (if t230 = true then (laws_FnExactShapeOf.j1 kj10 t202 (t217 != t202) l0_0 l0_1 t196 t199 t211 t214) else (laws_FnExactShapeOf.j1 kj10 t202 true l0_0 l0_1 t196 t199 t211 t214)) = some r := H
                have A68 := Aside0.mk A680
                clear A680
                by_cases c69 : t230 = true
                · subst c69
                  have H1 : (laws_FnExactShapeOf.j1 kj10 t202 (t217 != t202) l0_0 l0_1 t196 t199 t211 t214) = some r := by rw [if_pos rfl] at H; exact H
                  clear H
                  have H := H1
                  clear H1
                  have H' := Aside0.mk H
                  clear H
                  have hnb70 := NB218_188.out
                  have hnc70 := NB188_218.out
                  have hnb71 := NB218_203.out
                  have hnc71 := NB203_218.out
                  have hnb72 := NB218_210.out
                  have hnc72 := NB210_218.out
                  have hcz73_0 : w66.cell? ⟨gb218, 0, none⟩ = some (.slice Ao35 t211.length co35) := (blk_cell BK218.out 0).trans rfl
                  have hcz73_1 : w66.cell? ⟨gb218, 1, none⟩ = some (.slice Ao40 t214.length co40) := (blk_cell BK218.out 1).trans rfl
                  have hfz73_0 := blk_frozen BK218.out 0
                  have hfz73_1 := blk_frozen BK218.out 1
                  have hnb74 := NB203_188.out
                  have hnc74 := NB188_203.out
                  have hnb75 := NB203_210.out
                  have hnc75 := NB210_203.out
                  have hcz76_0 : w66.cell? ⟨gb203, 0, none⟩ = some (.slice Ao21 t196.length co21) := (blk_cell BK203.out 0).trans rfl
                  have hcz76_1 : w66.cell? ⟨gb203, 1, none⟩ = some (.slice Ao24 t199.length co24) := (blk_cell BK203.out 1).trans rfl
                  have hfz76_0 := blk_frozen BK203.out 0
                  have hfz76_1 := blk_frozen BK203.out 1
                  go_wp2_with (first | (go_at_call 28; (repeat rw [i64_w]); (with_reducible refine (laws_eqArray.calls kj10 _ _ t211 _ _ t214 _ _ t196 _ _ t199 true _ ?side1 ?side2 ?side3 ?side4 ?side5 ?side6 ?side7 ?side8 A68.out).mono ?_); (case side1 => repeat (first | exact (Kd.R_reads' HO_219000.out).2.2 | (with_reducible refine Kd.C_alloc ?_ _) | (with_reducible refine Kd.C_drewN ?_ _) | (with_reducible refine Kd.C_drew ?_))); (case side2 => exact (Kd.R_reads' HO_219000.out).2.1); (case side3 => repeat (first | exact (Kd.R_reads' HO_219001.out).2.2 | (with_reducible refine Kd.C_alloc ?_ _) | (with_reducible refine Kd.C_drewN ?_ _) | (with_reducible refine Kd.C_drew ?_))); (case side4 => exact (Kd.R_reads' HO_219001.out).2.1); (case side5 => repeat (first | exact (Kd.R_reads' HO_204000.out).2.2 | (with_reducible refine Kd.C_alloc ?_ _) | (with_reducible refine Kd.C_drewN ?_ _) | (with_reducible refine Kd.C_drew ?_))); (case side6 => exact (Kd.R_reads' HO_204000.out).2.1); (case side7 => repeat (first | exact (Kd.R_reads' HO_204001.out).2.2 | (with_reducible refine Kd.C_alloc ?_ _) | (with_reducible refine Kd.C_drewN ?_ _) | (with_reducible refine Kd.C_drew ?_))); (case side8 => exact (Kd.R_reads' HO_204001.out).2.1); rintro e w77 ⟨rfl, hb⟩; have n0_ := Aside0.mk (Kd.R_below (by (with_reducible repeat (first | apply Kd.R_alloc | apply Kd.R_drewN | apply Kd.R_drew)); exact HO_204000.out) hb); have n1_ := Aside0.mk (Kd.R_below (by (with_reducible repeat (first | apply Kd.R_alloc | apply Kd.R_drewN | apply Kd.R_drew)); exact HO_204001.out) hb); have n2_ := Aside0.mk (Kd.R_below (by (with_reducible repeat (first | apply Kd.R_alloc | apply Kd.R_drewN | apply Kd.R_drew)); exact HO_211000.out) hb); have n3_ := Aside0.mk (Kd.R_below (by (with_reducible repeat (first | apply Kd.R_alloc | apply Kd.R_drewN | apply Kd.R_drew)); exact HO_211001.out) hb); have n4_ := Aside0.mk (Kd.R_below (by (with_reducible repeat (first | apply Kd.R_alloc | apply Kd.R_drewN | apply Kd.R_drew)); exact HO_219000.out) hb); have n5_ := Aside0.mk (Kd.R_below (by (with_reducible repeat (first | apply Kd.R_alloc | apply Kd.R_drewN | apply Kd.R_drew)); exact HO_219001.out) hb); have n6_ := Aside0.mk (Kd.R_below (by (with_reducible repeat (first | apply Kd.R_alloc | apply Kd.R_drewN | apply Kd.R_drew)); exact HO222.out) hb); have n7_ := Aside0.mk (Kd.R_below (by (with_reducible repeat (first | apply Kd.R_alloc | apply Kd.R_drewN | apply Kd.R_drew)); exact HO225.out) hb); have n8_ := Aside0.mk (blk_below (g := gb188) (o := .cells #[.slice A0_0 l0_0.length c0_0, .slice A0_1 l0_1.length c0_1] 37 (0, 0)) (by (with_reducible repeat (first | refine blk_drewN ?_ _ | refine blk_drew ?_ | refine blk_alloc ?_ _)); exact BK188.out) hb); have n9_ := Aside0.mk (blk_below (g := gb203) (o := .cells #[.slice Ao21 t196.length co21, .slice Ao24 t199.length co24] 26 (0, 0)) (by (with_reducible repeat (first | refine blk_drewN ?_ _ | refine blk_drew ?_ | refine blk_alloc ?_ _)); exact BK203.out) hb); have n10_ := Aside0.mk (blk_below (g := gb210) (o := .cells #[.slice Ao28 t204.length co28, .slice Ao32 t207.length co32] 26 (0, 0)) (by (with_reducible repeat (first | refine blk_drewN ?_ _ | refine blk_drew ?_ | refine blk_alloc ?_ _)); exact BK210.out) hb); have n11_ := Aside0.mk (blk_below (g := gb218) (o := .cells #[.slice Ao35 t211.length co35, .slice Ao40 t214.length co40] 26 (0, 0)) (by (with_reducible repeat (first | refine blk_drewN ?_ _ | refine blk_drew ?_ | refine blk_alloc ?_ _)); exact BK218.out) hb); have n12_ := Aside0.mk (below_step (by repeat (first | (with_reducible first | exact HB.out | apply below_alloc | apply pw_below_drewN | apply below_drew1 | refine below_set ?_ GE188.out | refine below_set ?_ GE203.out | refine below_set ?_ GE210.out | refine below_set ?_ GE218.out) | exact HB.out)) hb); clear HO_204000; clear HO_204001; clear HO_211000; clear HO_211001; clear HO_219000; clear HO_219001; clear HO222; clear HO225; clear BK188; clear BK203; clear BK210; clear BK218; clear HB; have HO_204000 := n0_; have HO_204001 := n1_; have HO_211000 := n2_; have HO_211001 := n3_; have HO_219000 := n4_; have HO_219001 := n5_; have HO222 := n6_; have HO225 := n7_; have BK188 := n8_; have BK203 := n9_; have BK210 := n10_; have BK218 := n11_; have HB := n12_; clear n0_ n1_ n2_ n3_ n4_ n5_ n6_ n7_ n8_ n9_ n10_ n11_ n12_; (try clear hb); (try clear hb2); (try clear hk); (try clear hi)))
                  go_meet
                  case rel => exact ⟨_, ((t217 != t202)), (by first | rfl | (simp; done) | (simp [*]; done)), H', ⟨by have := HJ10.out; first | omega | exact Nat.le_refl _⟩, ⟨by (with_reducible repeat (first | apply Kd.R_alloc | apply Kd.R_drewN | apply Kd.R_drew)); exact Kd.R_mono HO_204000.out (fun _ hk => ⟨hk.1, ⟨hk.2.1, ⟨hk.2.2.1, ⟨hk.2.2.2.1, hk.2.2.2.2.1⟩⟩⟩⟩)⟩, ⟨by (with_reducible repeat (first | apply Kd.R_alloc | apply Kd.R_drewN | apply Kd.R_drew)); exact Kd.R_mono HO_204001.out (fun _ hk => ⟨hk.1, ⟨hk.2.1, ⟨hk.2.2.1, ⟨hk.2.2.2.1, hk.2.2.2.2.1⟩⟩⟩⟩)⟩, ⟨by (with_reducible repeat (first | apply Kd.R_alloc | apply Kd.R_drewN | apply Kd.R_drew)); exact Kd.R_mono HO_211000.out (fun _ hk => ⟨hk.1.1.1, ⟨hk.1.1.2.1, ⟨hk.1.1.2.2.1, ⟨hk.1.1.2.2.2.1, hk.1.1.2.2.2.2⟩⟩⟩⟩)⟩, ⟨by (with_reducible repeat (first | apply Kd.R_alloc | apply Kd.R_drewN | apply Kd.R_drew)); exact Kd.R_mono HO_211001.out (fun _ hk => ⟨hk.1.1.1, ⟨hk.1.1.2.1, ⟨hk.1.1.2.2.1, ⟨hk.1.1.2.2.2.1, hk.1.1.2.2.2.2⟩⟩⟩⟩)⟩, ⟨by (with_reducible repeat (first | apply Kd.R_alloc | apply Kd.R_drewN | apply Kd.R_drew)); exact Kd.R_mono HO_219000.out (fun _ hk => ⟨hk.1, ⟨hk.2.1, ⟨hk.2.2.1, ⟨hk.2.2.2.1, hk.2.2.2.2.1⟩⟩⟩⟩)⟩, ⟨by (with_reducible repeat (first | apply Kd.R_alloc | apply Kd.R_drewN | apply Kd.R_drew)); exact Kd.R_mono HO_219001.out (fun _ hk => ⟨hk.1, ⟨hk.2.1, ⟨hk.2.2.1, ⟨hk.2.2.2.1, hk.2.2.2.2.1⟩⟩⟩⟩)⟩, ⟨by (with_reducible repeat (first | refine blk_drewN ?_ _ | refine blk_drew ?_ | refine blk_alloc ?_ _)); exact BK188.out⟩, ⟨by (with_reducible repeat (first | refine blk_drewN ?_ _ | refine blk_drew ?_ | refine blk_alloc ?_ _)); exact BK203.out⟩, ⟨by (with_reducible repeat (first | refine blk_drewN ?_ _ | refine blk_drew ?_ | refine blk_alloc ?_ _)); exact BK210.out⟩, ⟨by (with_reducible repeat (first | refine blk_drewN ?_ _ | refine blk_drew ?_ | refine blk_alloc ?_ _)); exact BK218.out⟩, ⟨by repeat (first | (with_reducible first | exact HB.out | apply below_alloc | apply pw_below_drewN | apply below_drew1 | refine below_set ?_ GE188.out | refine below_set ?_ GE203.out | refine below_set ?_ GE210.out | refine below_set ?_ GE218.out) | exact HB.out)⟩⟩
                · replace c69 := Bool.eq_false_iff.mpr c69
                  subst c69
                  have H1 : (laws_FnExactShapeOf.j1 kj10 t202 true l0_0 l0_1 t196 t199 t211 t214) = some r := by rw [if_neg (show ¬ (false = true) by decide)] at H; exact H
                  clear H
                  have H := H1
                  clear H1
                  have hz_ : ∀ kz, laws_FnExactShapeOf.j1 kz t202 true l0_0 l0_1 t196 t199 t211 t214 = some r → r = false := by intro kz hz; cases kz with | zero => exact absurd hz (by simp [laws_FnExactShapeOf.j1]) | succ kz => simp only [laws_FnExactShapeOf.j1] at hz; first | (rw [if_pos rfl] at hz; exact (Option.some.inj hz).symm) | (simp at hz; exact hz.symm) | (simp at hz; exact hz)
                  exact absurd (HT.out.symm.trans (hz_ _ H)) (by decide)
            case rest =>
              clear HC56
              try clear c2
              try clear p2
              try clear c3
              try clear c3b0
              try clear c4
              try clear c5
              try clear c6
              try clear c7
              try clear c22
              try clear c23
              try clear c25
              try clear c28
              try clear c29
              try clear c30
              try clear c32
              try clear c34
              try clear c35
              try clear c36
              try clear c37
              try clear c38
              try clear c42
              try clear c43
              try clear c44
              try clear c45
              try clear c47
              try clear c48
              try clear c51
              try clear c54
              try clear c62
              try clear c63
              try clear c64
              try clear c67
              try clear c67b0
              try clear c69
              try clear c70
              try clear c71
              try clear c72
              try clear c74
              try clear c75
              try clear hcz13_0
              try clear hcz13_1
              try clear hcz15_0
              try clear hcz15_1
              try clear hcz23_0
              try clear hcz23_1
              try clear hcz25_0
              try clear hcz25_1
              try clear hcz31_0
              try clear hcz31_1
              try clear hcz39_0
              try clear hcz39_1
              try clear hcz46_0
              try clear hcz46_1
              try clear hcz49_0
              try clear hcz49_1
              try clear hcz5_0
              try clear hcz5_1
              try clear hcz65_0
              try clear hcz65_1
              try clear hcz73_0
              try clear hcz73_1
              try clear hcz76_0
              try clear hcz76_1
              try clear hfz13_0
              try clear hfz13_1
              try clear hfz15_0
              try clear hfz15_1
              try clear hfz23_0
              try clear hfz23_1
              try clear hfz25_0
              try clear hfz25_1
              try clear hfz31_0
              try clear hfz31_1
              try clear hfz39_0
              try clear hfz39_1
              try clear hfz46_0
              try clear hfz46_1
              try clear hfz49_0
              try clear hfz49_1
              try clear hfz5_0
              try clear hfz5_1
              try clear hfz65_0
              try clear hfz65_1
              try clear hfz73_0
              try clear hfz73_1
              try clear hfz76_0
              try clear hfz76_1
              try clear p2
              obtain ⟨kq, x61_55, rfl, HA, HJ55, HO_204000, HO_204001, HO_211000, HO_211001, HO_219000, HO_219001, BK188, BK203, BK210, BK218, HB⟩ := hcut
              have hl211000_55 := (Kd.R_reads' HO_211000.out).1
              rw [hl211000_55] at HO_211000
              (try simp only [hl211000_55])
              (try simp only [hl211000_55] at BK188)
              (try simp only [hl211000_55] at BK203)
              (try simp only [hl211000_55] at BK210)
              (try simp only [hl211000_55] at BK218)
              (try simp only [hl211000_55] at HO_204000)
              (try simp only [hl211000_55] at HO_204001)
              (try simp only [hl211000_55] at HO_211001)
              (try simp only [hl211000_55] at HO_219000)
              (try simp only [hl211000_55] at HO_219001)
              have hl211001_55 := (Kd.R_reads' HO_211001.out).1
              rw [hl211001_55] at HO_211001
              (try simp only [hl211001_55])
              (try simp only [hl211001_55] at BK188)
              (try simp only [hl211001_55] at BK203)
              (try simp only [hl211001_55] at BK210)
              (try simp only [hl211001_55] at BK218)
              (try simp only [hl211001_55] at HO_204000)
              (try simp only [hl211001_55] at HO_204001)
              (try simp only [hl211001_55] at HO_211000)
              (try simp only [hl211001_55] at HO_219000)
              (try simp only [hl211001_55] at HO_219001)
              cases kq with
              | zero => exact absurd HA.out (by simp [laws_FnExactShapeOf.j1])
              | succ kj55 =>
                have H := HA.out
                clear HA
                simp only [laws_FnExactShapeOf.j1] at H
                by_cases c78 : x61_55 = true
                · subst c78
                  have H1 : (some false) = some r := by rw [if_pos rfl] at H; exact H
                  clear H
                  have H := H1
                  clear H1
                  obtain rfl := Option.some.inj H
                  exact absurd HT.out (by decide)
                · replace c78 := Bool.eq_false_iff.mpr c78
                  subst c78
                  have H1 : ((laws_markArray.f kj55 t211 t214 1).bind fun bt231 => ((laws_heldArray.f kj55 bt231.2.1 bt231.2.2 1).bind fun t234 => (if t234 < 0 then (some false) else (if t234 = bt231.1 then ((laws_toArray.f kj55 l0_0 l0_1).bind fun bt235 => ((impl_ShapeOf.f kj55 bt235.1 bt235.2).bind fun bt241 => ((laws_eqArray.f kj55 bt241.1 bt241.2.1 t196 t199).bind fun t249 => (if t249 = true then (laws_FnExactShapeOf.j2 kj55 bt231.1 (bt241.2.2 != t202) bt231.2.1 bt231.2.2) else (laws_FnExactShapeOf.j2 kj55 bt231.1 true bt231.2.1 bt231.2.2))))) else (some false))))) = some r := by rw [if_neg (show ¬ (false = true) by decide)] at H; exact H
                  clear H
                  have H := H1
                  clear H1
                  replace H := Option.bind_eq_some_iff.mp H
                  obtain ⟨⟨t231, t232, t233⟩, A790, H⟩ := H
                  replace H : ((laws_heldArray.f kj55 t232 t233 1).bind fun t234 => (if t234 < 0 then (some false) else (if t234 = t231 then ((laws_toArray.f kj55 l0_0 l0_1).bind fun bt235 => ((impl_ShapeOf.f kj55 bt235.1 bt235.2).bind fun bt241 => ((laws_eqArray.f kj55 bt241.1 bt241.2.1 t196 t199).bind fun t249 => (if t249 = true then (laws_FnExactShapeOf.j2 kj55 t231 (bt241.2.2 != t202) t232 t233) else (laws_FnExactShapeOf.j2 kj55 t231 true t232 t233))))) else (some false)))) = some r := H
                  have A79 := Aside0.mk A790
                  clear A790
                  replace H := Option.bind_eq_some_iff.mp H
                  obtain ⟨t234, A800, H⟩ := H
                  replace H : (if t234 < 0 then (some false) else (if t234 = t231 then ((laws_toArray.f kj55 l0_0 l0_1).bind fun bt235 => ((impl_ShapeOf.f kj55 bt235.1 bt235.2).bind fun bt241 => ((laws_eqArray.f kj55 bt241.1 bt241.2.1 t196 t199).bind fun t249 => (if t249 = true then (laws_FnExactShapeOf.j2 kj55 t231 (bt241.2.2 != t202) t232 t233) else (laws_FnExactShapeOf.j2 kj55 t231 true t232 t233))))) else (some false))) = some r := H
                  have A80 := Aside0.mk A800
                  clear A800
                  by_cases c81 : t234 < 0
                  · rw [if_pos c81] at H
                    have c81b0 : decide (t234 < 0) = true := decide_eq_true c81
                    clear c81
                    obtain rfl := Option.some.inj H
                    exact absurd HT.out (by decide)
                  · rw [if_neg c81] at H
                    have c81b0 : decide (t234 < 0) = false := decide_eq_false c81
                    clear c81
                    by_cases c82 : t234 = t231
                    · rw [if_pos c82] at H
                      have c82b0 : (t234 == t231) = true := beq_iff_eq.mpr c82
                      have c82b1 : (t234 != t231) = false := bne_eq_false_iff_eq.mpr c82
                      clear c82
                      replace H := Option.bind_eq_some_iff.mp H
                      obtain ⟨⟨t235, t238⟩, A830, H⟩ := H
                      replace H : ((impl_ShapeOf.f kj55 t235 t238).bind fun bt241 => ((laws_eqArray.f kj55 bt241.1 bt241.2.1 t196 t199).bind fun t249 => (if t249 = true then (laws_FnExactShapeOf.j2 kj55 t231 (bt241.2.2 != t202) t232 t233) else (laws_FnExactShapeOf.j2 kj55 t231 true t232 t233)))) = some r := H
                      have A83 := Aside0.mk A830
                      clear A830
                      replace H := Option.bind_eq_some_iff.mp H
                      obtain ⟨⟨t241, t244, t247⟩, A840, H⟩ := H
                      replace H : ((laws_eqArray.f kj55 t241 t244 t196 t199).bind fun t249 => (if t249 = true then (laws_FnExactShapeOf.j2 kj55 t231 (t247 != t202) t232 t233) else (laws_FnExactShapeOf.j2 kj55 t231 true t232 t233))) = some r := H
                      have A84 := Aside0.mk A840
                      clear A840
                      have HC85 := Aside0.mk H
                      clear H
                      have hnb86 := NB218_188.out
                      have hnc86 := NB188_218.out
                      have hnb87 := NB218_203.out
                      have hnc87 := NB203_218.out
                      have hnb88 := NB218_210.out
                      have hnc88 := NB210_218.out
                      have hcz89_0 : wc.cell? ⟨gb218, 0, none⟩ = some (.slice Ao35 t211.length co35) := (blk_cell BK218.out 0).trans rfl
                      have hcz89_1 : wc.cell? ⟨gb218, 1, none⟩ = some (.slice Ao40 t214.length co40) := (blk_cell BK218.out 1).trans rfl
                      have hfz89_0 := blk_frozen BK218.out 0
                      have hfz89_1 := blk_frozen BK218.out 1
                      go_upto_region 25 with (first | ((with_reducible refine gate_callee (f := 32) rfl ?_); refine goesL_ (some 64) rfl rfl Try.func32 (by kernel_rfl) rfl #[.agg #[.slice Ao35 t211.length co35, .slice Ao40 t214.length co40], .int .i64 1] rfl (by (try simp only [List.map_toArray, List.map_cons, List.map_nil]); first | done | rfl | (simp only [List.length_drop, List.length_take]; rfl)) ?_; (with_reducible refine (laws_markArray.calls kj55 (fun k_ => some k_ = (.slice Ao35 t211.length co35 : Value).ownBlock) (.slice Ao35 t211.length co35) t211 (fun k_ => some k_ = (.slice Ao40 t214.length co40 : Value).ownBlock) (.slice Ao40 t214.length co40) t214 1 t231 t232 t233 w _ ?side1 ?side2 ?side3 ?side4 ?side5 A79.out).mono ?_); (case side1 => repeat (first | (with_reducible first | exact HB.out | apply below_alloc | apply pw_below_drewN | apply below_drew1 | refine below_set ?_ GE188.out | refine below_set ?_ GE203.out | refine below_set ?_ GE210.out | refine below_set ?_ GE218.out) | exact HB.out)); (case side2 => exact Kd.R_tight rfl HO_219000.out); (case side3 => exact fun k_ e_ => (HO_219000.out.1 k_ e_.symm).2.2.2.2); (case side4 => exact Kd.R_tight rfl HO_219001.out); (case side5 => exact fun k_ e_ => (HO_219001.out.1 k_ e_.symm).2.2.2.2); rintro e w90 ⟨rfl, hy0, hy1, hb, hkp⟩; refine ⟨_, rfl, ?_⟩; have n0_ := Aside0.mk (Kd.R_mono (ok' := fun k_ => some k_ ≠ (.slice Ao24 t199.length co24 : Value).ownBlock ∧ some k_ ≠ (.slice Ao28 t228.length co28 : Value).ownBlock ∧ some k_ ≠ (.slice Ao32 t229.length co32 : Value).ownBlock ∧ some k_ ≠ (.slice Ao35 t211.length co35 : Value).ownBlock ∧ some k_ ≠ (.slice Ao40 t214.length co40 : Value).ownBlock) (Kd.R_keptB (HO_204000.out) hkp (fun k_ hk_ hs_ => Or.elim hs_ (fun e_ => (hk_.2.2.2.1) e_) (fun e_ => (hk_.2.2.2.2) e_))) (fun k_ hk_ => ⟨hk_.1.1, hk_.1.2.1, hk_.1.2.2.1, hk_.1.2.2.2.1, hk_.1.2.2.2.2⟩)); have n1_ := Aside0.mk (Kd.R_mono (ok' := fun k_ => some k_ ≠ (.slice Ao21 t196.length co21 : Value).ownBlock ∧ some k_ ≠ (.slice Ao28 t228.length co28 : Value).ownBlock ∧ some k_ ≠ (.slice Ao32 t229.length co32 : Value).ownBlock ∧ some k_ ≠ (.slice Ao35 t211.length co35 : Value).ownBlock ∧ some k_ ≠ (.slice Ao40 t214.length co40 : Value).ownBlock) (Kd.R_keptB (HO_204001.out) hkp (fun k_ hk_ hs_ => Or.elim hs_ (fun e_ => (hk_.2.2.2.1) e_) (fun e_ => (hk_.2.2.2.2) e_))) (fun k_ hk_ => ⟨hk_.1.1, hk_.1.2.1, hk_.1.2.2.1, hk_.1.2.2.2.1, hk_.1.2.2.2.2⟩)); have n2_ := Aside0.mk (Kd.R_mono (ok' := fun k_ => some k_ ≠ (.slice Ao21 t196.length co21 : Value).ownBlock ∧ some k_ ≠ (.slice Ao24 t199.length co24 : Value).ownBlock ∧ some k_ ≠ (.slice Ao32 t229.length co32 : Value).ownBlock ∧ some k_ ≠ (.slice Ao35 t211.length co35 : Value).ownBlock ∧ some k_ ≠ (.slice Ao40 t214.length co40 : Value).ownBlock) (Kd.R_keptB (HO_211000.out) hkp (fun k_ hk_ hs_ => Or.elim hs_ (fun e_ => (hk_.2.2.2.1) e_) (fun e_ => (hk_.2.2.2.2) e_))) (fun k_ hk_ => ⟨hk_.1.1, hk_.1.2.1, hk_.1.2.2.1, hk_.1.2.2.2.1, hk_.1.2.2.2.2⟩)); have n3_ := Aside0.mk (Kd.R_mono (ok' := fun k_ => some k_ ≠ (.slice Ao21 t196.length co21 : Value).ownBlock ∧ some k_ ≠ (.slice Ao24 t199.length co24 : Value).ownBlock ∧ some k_ ≠ (.slice Ao28 t228.length co28 : Value).ownBlock ∧ some k_ ≠ (.slice Ao35 t211.length co35 : Value).ownBlock ∧ some k_ ≠ (.slice Ao40 t214.length co40 : Value).ownBlock) (Kd.R_keptB (HO_211001.out) hkp (fun k_ hk_ hs_ => Or.elim hs_ (fun e_ => (hk_.2.2.2.1) e_) (fun e_ => (hk_.2.2.2.2) e_))) (fun k_ hk_ => ⟨hk_.1.1, hk_.1.2.1, hk_.1.2.2.1, hk_.1.2.2.2.1, hk_.1.2.2.2.2⟩)); have n4_ := Aside0.mk (Kd.R_reok rfl hy0 (fun k_ e_ => HO_219000.out.1 k_ e_)); have n5_ := Aside0.mk (Kd.R_reok rfl hy1 (fun k_ e_ => HO_219001.out.1 k_ e_)); have n6_ := Aside0.mk (blk_kept (by (with_reducible repeat (first | refine blk_drewN ?_ _ | refine blk_drew ?_ | refine blk_alloc ?_ _)); exact BK188.out) hkp (fun hs_ => Or.elim hs_ (fun e_ => (fun e_ => (Kd.R_ne HO_219000.out BK188.out (by decide)) e_) e_) (fun e_ => (fun e_ => (Kd.R_ne HO_219001.out BK188.out (by decide)) e_) e_))); have n7_ := Aside0.mk (blk_kept (by (with_reducible repeat (first | refine blk_drewN ?_ _ | refine blk_drew ?_ | refine blk_alloc ?_ _)); exact BK203.out) hkp (fun hs_ => Or.elim hs_ (fun e_ => (fun e_ => (Kd.R_ne HO_219000.out BK203.out (by decide)) e_) e_) (fun e_ => (fun e_ => (Kd.R_ne HO_219001.out BK203.out (by decide)) e_) e_))); have n8_ := Aside0.mk (blk_kept (by (with_reducible repeat (first | refine blk_drewN ?_ _ | refine blk_drew ?_ | refine blk_alloc ?_ _)); exact BK210.out) hkp (fun hs_ => Or.elim hs_ (fun e_ => (fun e_ => (Kd.R_ne HO_219000.out BK210.out (by decide)) e_) e_) (fun e_ => (fun e_ => (Kd.R_ne HO_219001.out BK210.out (by decide)) e_) e_))); have n9_ := Aside0.mk (blk_kept (by (with_reducible repeat (first | refine blk_drewN ?_ _ | refine blk_drew ?_ | refine blk_alloc ?_ _)); exact BK218.out) hkp (fun hs_ => Or.elim hs_ (fun e_ => (fun e_ => (Kd.R_ne HO_219000.out BK218.out (by decide)) e_) e_) (fun e_ => (fun e_ => (Kd.R_ne HO_219001.out BK218.out (by decide)) e_) e_))); have n10_ := Aside0.mk (hb); clear HO_204000; clear HO_204001; clear HO_211000; clear HO_211001; clear HO_219000; clear HO_219001; clear BK188; clear BK203; clear BK210; clear BK218; clear HB; have HO_204000 := n0_; have HO_204001 := n1_; have HO_211000 := n2_; have HO_211001 := n3_; have HO_219000 := n4_; have HO_219001 := n5_; have BK188 := n6_; have BK203 := n7_; have BK210 := n8_; have BK218 := n9_; have HB := n10_; clear n0_ n1_ n2_ n3_ n4_ n5_ n6_ n7_ n8_ n9_ n10_; (try clear hb); (try clear hkp); (try clear hy0); (try clear hy1); have hcz91_0 : w90.cell? ⟨gb218, 0, none⟩ = some (.slice Ao35 t211.length co35) := (blk_cell BK218.out 0).trans rfl; have hcz91_1 : w90.cell? ⟨gb218, 1, none⟩ = some (.slice Ao40 t214.length co40) := (blk_cell BK218.out 1).trans rfl; have hfz91_0 := blk_frozen BK218.out 0; have hfz91_1 := blk_frozen BK218.out 1) | ((with_reducible refine gate_callee (f := 33) rfl ?_); refine goesL_ (some 67) rfl rfl Try.func33 (by kernel_rfl) rfl #[.agg #[.slice Ao35 t232.length co35, .slice Ao40 t233.length co40], .int .i64 1] rfl (by (try simp only [List.map_toArray, List.map_cons, List.map_nil]); first | done | (rw [show t232.length = t211.length from (Kd.R_reads' HO_219000.out).1.symm, show t233.length = t214.length from (Kd.R_reads' HO_219001.out).1.symm] <;> rfl) | rfl | (simp only [List.length_drop, List.length_take]; rfl)) ?_; (with_reducible refine (laws_heldArray.calls kj55 _ _ t232 _ _ t233 1 t234 _ ?side1 ?side2 ?side3 ?side4 A80.out).mono ?_); (case side1 => repeat (first | exact (Kd.R_reads' HO_219000.out).2.2 | (with_reducible refine Kd.C_alloc ?_ _) | (with_reducible refine Kd.C_drewN ?_ _) | (with_reducible refine Kd.C_drew ?_))); (case side2 => rw [show t232.length = t211.length from (Kd.R_reads' HO_219000.out).1.symm]; exact (Kd.R_reads' HO_219000.out).2.1); (case side3 => repeat (first | exact (Kd.R_reads' HO_219001.out).2.2 | (with_reducible refine Kd.C_alloc ?_ _) | (with_reducible refine Kd.C_drewN ?_ _) | (with_reducible refine Kd.C_drew ?_))); (case side4 => rw [show t233.length = t214.length from (Kd.R_reads' HO_219001.out).1.symm]; exact (Kd.R_reads' HO_219001.out).2.1); rintro e w92 ⟨rfl, hb⟩; refine ⟨_, rfl, ?_⟩; have n0_ := Aside0.mk (Kd.R_below (by (with_reducible repeat (first | apply Kd.R_alloc | apply Kd.R_drewN | apply Kd.R_drew)); exact HO_204000.out) hb); have n1_ := Aside0.mk (Kd.R_below (by (with_reducible repeat (first | apply Kd.R_alloc | apply Kd.R_drewN | apply Kd.R_drew)); exact HO_204001.out) hb); have n2_ := Aside0.mk (Kd.R_below (by (with_reducible repeat (first | apply Kd.R_alloc | apply Kd.R_drewN | apply Kd.R_drew)); exact HO_211000.out) hb); have n3_ := Aside0.mk (Kd.R_below (by (with_reducible repeat (first | apply Kd.R_alloc | apply Kd.R_drewN | apply Kd.R_drew)); exact HO_211001.out) hb); have n4_ := Aside0.mk (Kd.R_below (by (with_reducible repeat (first | apply Kd.R_alloc | apply Kd.R_drewN | apply Kd.R_drew)); exact HO_219000.out) hb); have n5_ := Aside0.mk (Kd.R_below (by (with_reducible repeat (first | apply Kd.R_alloc | apply Kd.R_drewN | apply Kd.R_drew)); exact HO_219001.out) hb); have n6_ := Aside0.mk (blk_below (g := gb188) (o := .cells #[.slice A0_0 l0_0.length c0_0, .slice A0_1 l0_1.length c0_1] 37 (0, 0)) (by (with_reducible repeat (first | refine blk_drewN ?_ _ | refine blk_drew ?_ | refine blk_alloc ?_ _)); exact BK188.out) hb); have n7_ := Aside0.mk (blk_below (g := gb203) (o := .cells #[.slice Ao21 t196.length co21, .slice Ao24 t199.length co24] 26 (0, 0)) (by (with_reducible repeat (first | refine blk_drewN ?_ _ | refine blk_drew ?_ | refine blk_alloc ?_ _)); exact BK203.out) hb); have n8_ := Aside0.mk (blk_below (g := gb210) (o := .cells #[.slice Ao28 t228.length co28, .slice Ao32 t229.length co32] 26 (0, 0)) (by (with_reducible repeat (first | refine blk_drewN ?_ _ | refine blk_drew ?_ | refine blk_alloc ?_ _)); exact BK210.out) hb); have n9_ := Aside0.mk (blk_below (g := gb218) (o := .cells #[.slice Ao35 t211.length co35, .slice Ao40 t214.length co40] 26 (0, 0)) (by (with_reducible repeat (first | refine blk_drewN ?_ _ | refine blk_drew ?_ | refine blk_alloc ?_ _)); exact BK218.out) hb); have n10_ := Aside0.mk (below_step (by repeat (first | (with_reducible first | exact HB.out | apply below_alloc | apply pw_below_drewN | apply below_drew1 | refine below_set ?_ GE188.out | refine below_set ?_ GE203.out | refine below_set ?_ GE210.out | refine below_set ?_ GE218.out) | exact HB.out)) hb); clear HO_204000; clear HO_204001; clear HO_211000; clear HO_211001; clear HO_219000; clear HO_219001; clear BK188; clear BK203; clear BK210; clear BK218; clear HB; have HO_204000 := n0_; have HO_204001 := n1_; have HO_211000 := n2_; have HO_211001 := n3_; have HO_219000 := n4_; have HO_219001 := n5_; have BK188 := n6_; have BK203 := n7_; have BK210 := n8_; have BK218 := n9_; have HB := n10_; clear n0_ n1_ n2_ n3_ n4_ n5_ n6_ n7_ n8_ n9_ n10_; (try clear hb); (try clear hb2); (try clear hk); (try clear hi); have hnb93 := NB188_203.out; have hnc93 := NB203_188.out; have hnb94 := NB188_210.out; have hnc94 := NB210_188.out; have hcz95_0 : w92.cell? ⟨gb188, 0, none⟩ = some (.slice A0_0 l0_0.length c0_0) := (blk_cell BK188.out 0).trans rfl; have hcz95_1 : w92.cell? ⟨gb188, 1, none⟩ = some (.slice A0_1 l0_1.length c0_1) := (blk_cell BK188.out 1).trans rfl; have hfz95_0 := blk_frozen BK188.out 0; have hfz95_1 := blk_frozen BK188.out 1) | ((with_reducible refine gate_callee (f := 25) rfl ?_); refine goesL_ (some 75) rfl rfl Try.func25 (by kernel_rfl) rfl #[.agg #[.slice A0_0 l0_0.length c0_0, .slice A0_1 l0_1.length c0_1]] rfl (by (try simp only [List.map_toArray, List.map_cons, List.map_nil]); first | done | rfl | (simp only [List.length_drop, List.length_take]; rfl)) ?_; (with_reducible refine (laws_toArray.calls kj55 _ _ l0_0 _ _ l0_1 t235 t238 _ ?side1 ?side2 ?side3 ?side4 A83.out).mono ?_); (case side1 => repeat (first | exact (Kd.C_below HR0_0.out HB.out) | (with_reducible refine Kd.C_alloc ?_ _) | (with_reducible refine Kd.C_drewN ?_ _) | (with_reducible refine Kd.C_drew ?_))); (case side2 => exact HC0_0.out); (case side3 => repeat (first | exact (Kd.C_below HR0_1.out HB.out) | (with_reducible refine Kd.C_alloc ?_ _) | (with_reducible refine Kd.C_drewN ?_ _) | (with_reducible refine Kd.C_drew ?_))); (case side4 => exact HC0_1.out); rintro e w96 ⟨v236, v239, rfl, ho0, ho1, hb⟩; refine ⟨_, rfl, ?_⟩; have n0_ := Aside0.mk (Kd.R_mono (Kd.R_told (Kd.R_told (Kd.R_old (by (with_reducible repeat (first | apply Kd.R_alloc | apply Kd.R_drewN | apply Kd.R_drew)); exact HO_204000.out) hb) (Kd.R_base ho0)) (Kd.R_base ho1)) (fun _ h_ => h_.1)); have n1_ := Aside0.mk (Kd.R_mono (Kd.R_told (Kd.R_told (Kd.R_old (by (with_reducible repeat (first | apply Kd.R_alloc | apply Kd.R_drewN | apply Kd.R_drew)); exact HO_204001.out) hb) (Kd.R_base ho0)) (Kd.R_base ho1)) (fun _ h_ => h_.1)); have n2_ := Aside0.mk (Kd.R_mono (Kd.R_told (Kd.R_told (Kd.R_old (by (with_reducible repeat (first | apply Kd.R_alloc | apply Kd.R_drewN | apply Kd.R_drew)); exact HO_211000.out) hb) (Kd.R_base ho0)) (Kd.R_base ho1)) (fun _ h_ => h_.1)); have n3_ := Aside0.mk (Kd.R_mono (Kd.R_told (Kd.R_told (Kd.R_old (by (with_reducible repeat (first | apply Kd.R_alloc | apply Kd.R_drewN | apply Kd.R_drew)); exact HO_211001.out) hb) (Kd.R_base ho0)) (Kd.R_base ho1)) (fun _ h_ => h_.1)); have n4_ := Aside0.mk (Kd.R_mono (Kd.R_told (Kd.R_told (Kd.R_old (by (with_reducible repeat (first | apply Kd.R_alloc | apply Kd.R_drewN | apply Kd.R_drew)); exact HO_219000.out) hb) (Kd.R_base ho0)) (Kd.R_base ho1)) (fun _ h_ => h_.1)); have n5_ := Aside0.mk (Kd.R_mono (Kd.R_told (Kd.R_told (Kd.R_old (by (with_reducible repeat (first | apply Kd.R_alloc | apply Kd.R_drewN | apply Kd.R_drew)); exact HO_219001.out) hb) (Kd.R_base ho0)) (Kd.R_base ho1)) (fun _ h_ => h_.1)); have n6_ := Aside0.mk (Kd.R_lower (Kd.R_new' (Kd.R_new' (Kd.R_new' (Kd.R_new' (Kd.R_new' (Kd.R_new' ho0 (Kd.R_lt (by (with_reducible repeat (first | apply Kd.R_alloc | apply Kd.R_drewN | apply Kd.R_drew)); exact HO_204000.out))) (Kd.R_lt (by (with_reducible repeat (first | apply Kd.R_alloc | apply Kd.R_drewN | apply Kd.R_drew)); exact HO_204001.out))) (Kd.R_lt (by (with_reducible repeat (first | apply Kd.R_alloc | apply Kd.R_drewN | apply Kd.R_drew)); exact HO_211000.out))) (Kd.R_lt (by (with_reducible repeat (first | apply Kd.R_alloc | apply Kd.R_drewN | apply Kd.R_drew)); exact HO_211001.out))) (Kd.R_lt (by (with_reducible repeat (first | apply Kd.R_alloc | apply Kd.R_drewN | apply Kd.R_drew)); exact HO_219000.out))) (Kd.R_lt (by (with_reducible repeat (first | apply Kd.R_alloc | apply Kd.R_drewN | apply Kd.R_drew)); exact HO_219001.out))) (below_size (by repeat (first | (with_reducible first | exact HB.out | apply below_alloc | apply pw_below_drewN | apply below_drew1 | refine below_set ?_ GE188.out | refine below_set ?_ GE203.out | refine below_set ?_ GE210.out | refine below_set ?_ GE218.out) | exact HB.out)))); have n7_ := Aside0.mk (Kd.R_lower (Kd.R_new' (Kd.R_new' (Kd.R_new' (Kd.R_new' (Kd.R_new' (Kd.R_new' ho1 (Kd.R_lt (by (with_reducible repeat (first | apply Kd.R_alloc | apply Kd.R_drewN | apply Kd.R_drew)); exact HO_204000.out))) (Kd.R_lt (by (with_reducible repeat (first | apply Kd.R_alloc | apply Kd.R_drewN | apply Kd.R_drew)); exact HO_204001.out))) (Kd.R_lt (by (with_reducible repeat (first | apply Kd.R_alloc | apply Kd.R_drewN | apply Kd.R_drew)); exact HO_211000.out))) (Kd.R_lt (by (with_reducible repeat (first | apply Kd.R_alloc | apply Kd.R_drewN | apply Kd.R_drew)); exact HO_211001.out))) (Kd.R_lt (by (with_reducible repeat (first | apply Kd.R_alloc | apply Kd.R_drewN | apply Kd.R_drew)); exact HO_219000.out))) (Kd.R_lt (by (with_reducible repeat (first | apply Kd.R_alloc | apply Kd.R_drewN | apply Kd.R_drew)); exact HO_219001.out))) (below_size (by repeat (first | (with_reducible first | exact HB.out | apply below_alloc | apply pw_below_drewN | apply below_drew1 | refine below_set ?_ GE188.out | refine below_set ?_ GE203.out | refine below_set ?_ GE210.out | refine below_set ?_ GE218.out) | exact HB.out)))); have n8_ := Aside0.mk (blk_below (g := gb188) (o := .cells #[.slice A0_0 l0_0.length c0_0, .slice A0_1 l0_1.length c0_1] 37 (0, 0)) (by (with_reducible repeat (first | refine blk_drewN ?_ _ | refine blk_drew ?_ | refine blk_alloc ?_ _)); exact BK188.out) hb); have n9_ := Aside0.mk (blk_below (g := gb203) (o := .cells #[.slice Ao21 t196.length co21, .slice Ao24 t199.length co24] 26 (0, 0)) (by (with_reducible repeat (first | refine blk_drewN ?_ _ | refine blk_drew ?_ | refine blk_alloc ?_ _)); exact BK203.out) hb); have n10_ := Aside0.mk (blk_below (g := gb210) (o := .cells #[.slice Ao28 t228.length co28, .slice Ao32 t229.length co32] 26 (0, 0)) (by (with_reducible repeat (first | refine blk_drewN ?_ _ | refine blk_drew ?_ | refine blk_alloc ?_ _)); exact BK210.out) hb); have n11_ := Aside0.mk (blk_below (g := gb218) (o := .cells #[.slice Ao35 t211.length co35, .slice Ao40 t214.length co40] 26 (0, 0)) (by (with_reducible repeat (first | refine blk_drewN ?_ _ | refine blk_drew ?_ | refine blk_alloc ?_ _)); exact BK218.out) hb); have n12_ := Aside0.mk (below_step (by repeat (first | (with_reducible first | exact HB.out | apply below_alloc | apply pw_below_drewN | apply below_drew1 | refine below_set ?_ GE188.out | refine below_set ?_ GE203.out | refine below_set ?_ GE210.out | refine below_set ?_ GE218.out) | exact HB.out)) hb); clear HO_204000; clear HO_204001; clear HO_211000; clear HO_211001; clear HO_219000; clear HO_219001; clear BK188; clear BK203; clear BK210; clear BK218; clear HB; have HO_204000 := n0_; have HO_204001 := n1_; have HO_211000 := n2_; have HO_211001 := n3_; have HO_219000 := n4_; have HO_219001 := n5_; have HO237 := n6_; have HO240 := n7_; have BK188 := n8_; have BK203 := n9_; have BK210 := n10_; have BK218 := n11_; have HB := n12_; clear n0_ n1_ n2_ n3_ n4_ n5_ n6_ n7_ n8_ n9_ n10_ n11_ n12_; (try clear hb); (try clear hb2); (try clear hk); (try clear hi); (try clear ho0); (try clear ho1); obtain ⟨Ao97, co97, eo97⟩ := Kd.R_slice HO237.out; subst eo97; obtain ⟨Ao98, co98, eo98⟩ := Kd.R_slice HO240.out; subst eo98) | ((with_reducible refine gate_callee (f := 35) rfl ?_); refine goesL_ (some 76) rfl rfl Try.func35 (by kernel_rfl) rfl #[.agg #[.slice Ao97 t235.length co97, .slice Ao98 t238.length co98]] rfl (by (try simp only [List.map_toArray, List.map_cons, List.map_nil]); first | done | rfl | (simp only [List.length_drop, List.length_take]; rfl)) ?_; (with_reducible refine (impl_ShapeOf.calls kj55 _ _ t235 _ _ t238 t241 t244 t247 _ ?side1 ?side2 ?side3 ?side4 A84.out).mono ?_); (case side1 => repeat (first | exact (Kd.R_reads' HO237.out).2.2 | (with_reducible refine Kd.C_alloc ?_ _) | (with_reducible refine Kd.C_drewN ?_ _) | (with_reducible refine Kd.C_drew ?_))); (case side2 => exact (Kd.R_reads' HO237.out).2.1); (case side3 => repeat (first | exact (Kd.R_reads' HO240.out).2.2 | (with_reducible refine Kd.C_alloc ?_ _) | (with_reducible refine Kd.C_drewN ?_ _) | (with_reducible refine Kd.C_drew ?_))); (case side4 => exact (Kd.R_reads' HO240.out).2.1); rintro e w99 ⟨v242, v245, rfl, ho0, ho1, hb⟩; refine ⟨_, rfl, ?_⟩; have n0_ := Aside0.mk (Kd.R_mono (Kd.R_told (Kd.R_told (Kd.R_old (by (with_reducible repeat (first | apply Kd.R_alloc | apply Kd.R_drewN | apply Kd.R_drew)); exact HO_204000.out) hb) (Kd.R_base ho0)) (Kd.R_base ho1)) (fun _ h_ => h_.1)); have n1_ := Aside0.mk (Kd.R_mono (Kd.R_told (Kd.R_told (Kd.R_old (by (with_reducible repeat (first | apply Kd.R_alloc | apply Kd.R_drewN | apply Kd.R_drew)); exact HO_204001.out) hb) (Kd.R_base ho0)) (Kd.R_base ho1)) (fun _ h_ => h_.1)); have n2_ := Aside0.mk (Kd.R_mono (Kd.R_told (Kd.R_told (Kd.R_old (by (with_reducible repeat (first | apply Kd.R_alloc | apply Kd.R_drewN | apply Kd.R_drew)); exact HO_211000.out) hb) (Kd.R_base ho0)) (Kd.R_base ho1)) (fun _ h_ => h_.1)); have n3_ := Aside0.mk (Kd.R_mono (Kd.R_told (Kd.R_told (Kd.R_old (by (with_reducible repeat (first | apply Kd.R_alloc | apply Kd.R_drewN | apply Kd.R_drew)); exact HO_211001.out) hb) (Kd.R_base ho0)) (Kd.R_base ho1)) (fun _ h_ => h_.1)); have n4_ := Aside0.mk (Kd.R_mono (Kd.R_told (Kd.R_told (Kd.R_old (by (with_reducible repeat (first | apply Kd.R_alloc | apply Kd.R_drewN | apply Kd.R_drew)); exact HO_219000.out) hb) (Kd.R_base ho0)) (Kd.R_base ho1)) (fun _ h_ => h_.1)); have n5_ := Aside0.mk (Kd.R_mono (Kd.R_told (Kd.R_told (Kd.R_old (by (with_reducible repeat (first | apply Kd.R_alloc | apply Kd.R_drewN | apply Kd.R_drew)); exact HO_219001.out) hb) (Kd.R_base ho0)) (Kd.R_base ho1)) (fun _ h_ => h_.1)); have n6_ := Aside0.mk (Kd.R_mono (Kd.R_told (Kd.R_told (Kd.R_old (by (with_reducible repeat (first | apply Kd.R_alloc | apply Kd.R_drewN | apply Kd.R_drew)); exact HO237.out) hb) (Kd.R_base ho0)) (Kd.R_base ho1)) (fun _ h_ => h_.1)); have n7_ := Aside0.mk (Kd.R_mono (Kd.R_told (Kd.R_told (Kd.R_old (by (with_reducible repeat (first | apply Kd.R_alloc | apply Kd.R_drewN | apply Kd.R_drew)); exact HO240.out) hb) (Kd.R_base ho0)) (Kd.R_base ho1)) (fun _ h_ => h_.1)); have n8_ := Aside0.mk (Kd.R_lower (Kd.R_new' (Kd.R_new' (Kd.R_new' (Kd.R_new' (Kd.R_new' (Kd.R_new' (Kd.R_new' (Kd.R_new' ho0 (Kd.R_lt (by (with_reducible repeat (first | apply Kd.R_alloc | apply Kd.R_drewN | apply Kd.R_drew)); exact HO_204000.out))) (Kd.R_lt (by (with_reducible repeat (first | apply Kd.R_alloc | apply Kd.R_drewN | apply Kd.R_drew)); exact HO_204001.out))) (Kd.R_lt (by (with_reducible repeat (first | apply Kd.R_alloc | apply Kd.R_drewN | apply Kd.R_drew)); exact HO_211000.out))) (Kd.R_lt (by (with_reducible repeat (first | apply Kd.R_alloc | apply Kd.R_drewN | apply Kd.R_drew)); exact HO_211001.out))) (Kd.R_lt (by (with_reducible repeat (first | apply Kd.R_alloc | apply Kd.R_drewN | apply Kd.R_drew)); exact HO_219000.out))) (Kd.R_lt (by (with_reducible repeat (first | apply Kd.R_alloc | apply Kd.R_drewN | apply Kd.R_drew)); exact HO_219001.out))) (Kd.R_lt (by (with_reducible repeat (first | apply Kd.R_alloc | apply Kd.R_drewN | apply Kd.R_drew)); exact HO237.out))) (Kd.R_lt (by (with_reducible repeat (first | apply Kd.R_alloc | apply Kd.R_drewN | apply Kd.R_drew)); exact HO240.out))) (below_size (by repeat (first | (with_reducible first | exact HB.out | apply below_alloc | apply pw_below_drewN | apply below_drew1 | refine below_set ?_ GE188.out | refine below_set ?_ GE203.out | refine below_set ?_ GE210.out | refine below_set ?_ GE218.out) | exact HB.out)))); have n9_ := Aside0.mk (Kd.R_lower (Kd.R_new' (Kd.R_new' (Kd.R_new' (Kd.R_new' (Kd.R_new' (Kd.R_new' (Kd.R_new' (Kd.R_new' ho1 (Kd.R_lt (by (with_reducible repeat (first | apply Kd.R_alloc | apply Kd.R_drewN | apply Kd.R_drew)); exact HO_204000.out))) (Kd.R_lt (by (with_reducible repeat (first | apply Kd.R_alloc | apply Kd.R_drewN | apply Kd.R_drew)); exact HO_204001.out))) (Kd.R_lt (by (with_reducible repeat (first | apply Kd.R_alloc | apply Kd.R_drewN | apply Kd.R_drew)); exact HO_211000.out))) (Kd.R_lt (by (with_reducible repeat (first | apply Kd.R_alloc | apply Kd.R_drewN | apply Kd.R_drew)); exact HO_211001.out))) (Kd.R_lt (by (with_reducible repeat (first | apply Kd.R_alloc | apply Kd.R_drewN | apply Kd.R_drew)); exact HO_219000.out))) (Kd.R_lt (by (with_reducible repeat (first | apply Kd.R_alloc | apply Kd.R_drewN | apply Kd.R_drew)); exact HO_219001.out))) (Kd.R_lt (by (with_reducible repeat (first | apply Kd.R_alloc | apply Kd.R_drewN | apply Kd.R_drew)); exact HO237.out))) (Kd.R_lt (by (with_reducible repeat (first | apply Kd.R_alloc | apply Kd.R_drewN | apply Kd.R_drew)); exact HO240.out))) (below_size (by repeat (first | (with_reducible first | exact HB.out | apply below_alloc | apply pw_below_drewN | apply below_drew1 | refine below_set ?_ GE188.out | refine below_set ?_ GE203.out | refine below_set ?_ GE210.out | refine below_set ?_ GE218.out) | exact HB.out)))); have n10_ := Aside0.mk (blk_below (g := gb188) (o := .cells #[.slice A0_0 l0_0.length c0_0, .slice A0_1 l0_1.length c0_1] 37 (0, 0)) (by (with_reducible repeat (first | refine blk_drewN ?_ _ | refine blk_drew ?_ | refine blk_alloc ?_ _)); exact BK188.out) hb); have n11_ := Aside0.mk (blk_below (g := gb203) (o := .cells #[.slice Ao21 t196.length co21, .slice Ao24 t199.length co24] 26 (0, 0)) (by (with_reducible repeat (first | refine blk_drewN ?_ _ | refine blk_drew ?_ | refine blk_alloc ?_ _)); exact BK203.out) hb); have n12_ := Aside0.mk (blk_below (g := gb210) (o := .cells #[.slice Ao28 t228.length co28, .slice Ao32 t229.length co32] 26 (0, 0)) (by (with_reducible repeat (first | refine blk_drewN ?_ _ | refine blk_drew ?_ | refine blk_alloc ?_ _)); exact BK210.out) hb); have n13_ := Aside0.mk (blk_below (g := gb218) (o := .cells #[.slice Ao35 t211.length co35, .slice Ao40 t214.length co40] 26 (0, 0)) (by (with_reducible repeat (first | refine blk_drewN ?_ _ | refine blk_drew ?_ | refine blk_alloc ?_ _)); exact BK218.out) hb); have n14_ := Aside0.mk (below_step (by repeat (first | (with_reducible first | exact HB.out | apply below_alloc | apply pw_below_drewN | apply below_drew1 | refine below_set ?_ GE188.out | refine below_set ?_ GE203.out | refine below_set ?_ GE210.out | refine below_set ?_ GE218.out) | exact HB.out)) hb); clear HO_204000; clear HO_204001; clear HO_211000; clear HO_211001; clear HO_219000; clear HO_219001; clear HO237; clear HO240; clear BK188; clear BK203; clear BK210; clear BK218; clear HB; have HO_204000 := n0_; have HO_204001 := n1_; have HO_211000 := n2_; have HO_211001 := n3_; have HO_219000 := n4_; have HO_219001 := n5_; have HO237 := n6_; have HO240 := n7_; have HO243 := n8_; have HO246 := n9_; have BK188 := n10_; have BK203 := n11_; have BK210 := n12_; have BK218 := n13_; have HB := n14_; clear n0_ n1_ n2_ n3_ n4_ n5_ n6_ n7_ n8_ n9_ n10_ n11_ n12_ n13_ n14_; (try clear hb); (try clear hb2); (try clear hk); (try clear hi); (try clear ho0); (try clear ho1)) | ((with_reducible refine gate_dst (N := 12) rfl ?_); refine box_event ?hg (N := 12) ?hd (cs := #[.slice none 0 0, .slice none 0 0]) (t := 26) ?hr ?_; (case hd => rfl); (case hg => rfl); (case hr => first | (go_simp; done) | (go_simp; rfl)); intro gb248 hg w100 hbox hb; have n0_ := Aside0.mk (Kd.R_below (by (with_reducible repeat (first | apply Kd.R_alloc | apply Kd.R_drewN | apply Kd.R_drew)); exact HO_204000.out) hb); have n1_ := Aside0.mk (Kd.R_below (by (with_reducible repeat (first | apply Kd.R_alloc | apply Kd.R_drewN | apply Kd.R_drew)); exact HO_204001.out) hb); have n2_ := Aside0.mk (Kd.R_below (by (with_reducible repeat (first | apply Kd.R_alloc | apply Kd.R_drewN | apply Kd.R_drew)); exact HO_211000.out) hb); have n3_ := Aside0.mk (Kd.R_below (by (with_reducible repeat (first | apply Kd.R_alloc | apply Kd.R_drewN | apply Kd.R_drew)); exact HO_211001.out) hb); have n4_ := Aside0.mk (Kd.R_below (by (with_reducible repeat (first | apply Kd.R_alloc | apply Kd.R_drewN | apply Kd.R_drew)); exact HO_219000.out) hb); have n5_ := Aside0.mk (Kd.R_below (by (with_reducible repeat (first | apply Kd.R_alloc | apply Kd.R_drewN | apply Kd.R_drew)); exact HO_219001.out) hb); have n6_ := Aside0.mk (Kd.R_below (by (with_reducible repeat (first | apply Kd.R_alloc | apply Kd.R_drewN | apply Kd.R_drew)); exact HO237.out) hb); have n7_ := Aside0.mk (Kd.R_below (by (with_reducible repeat (first | apply Kd.R_alloc | apply Kd.R_drewN | apply Kd.R_drew)); exact HO240.out) hb); have n8_ := Aside0.mk (Kd.R_below (by (with_reducible repeat (first | apply Kd.R_alloc | apply Kd.R_drewN | apply Kd.R_drew)); exact HO243.out) hb); have n9_ := Aside0.mk (Kd.R_below (by (with_reducible repeat (first | apply Kd.R_alloc | apply Kd.R_drewN | apply Kd.R_drew)); exact HO246.out) hb); have n10_ := Aside0.mk (blk_below (g := gb188) (o := .cells #[.slice A0_0 l0_0.length c0_0, .slice A0_1 l0_1.length c0_1] 37 (0, 0)) (by (with_reducible repeat (first | refine blk_drewN ?_ _ | refine blk_drew ?_ | refine blk_alloc ?_ _)); exact BK188.out) hb); have n11_ := Aside0.mk (blk_below (g := gb203) (o := .cells #[.slice Ao21 t196.length co21, .slice Ao24 t199.length co24] 26 (0, 0)) (by (with_reducible repeat (first | refine blk_drewN ?_ _ | refine blk_drew ?_ | refine blk_alloc ?_ _)); exact BK203.out) hb); have n12_ := Aside0.mk (blk_below (g := gb210) (o := .cells #[.slice Ao28 t228.length co28, .slice Ao32 t229.length co32] 26 (0, 0)) (by (with_reducible repeat (first | refine blk_drewN ?_ _ | refine blk_drew ?_ | refine blk_alloc ?_ _)); exact BK210.out) hb); have n13_ := Aside0.mk (blk_below (g := gb218) (o := .cells #[.slice Ao35 t211.length co35, .slice Ao40 t214.length co40] 26 (0, 0)) (by (with_reducible repeat (first | refine blk_drewN ?_ _ | refine blk_drew ?_ | refine blk_alloc ?_ _)); exact BK218.out) hb); have n14_ := Aside0.mk (below_step (by repeat (first | (with_reducible first | exact HB.out | apply below_alloc | apply pw_below_drewN | apply below_drew1 | refine below_set ?_ GE188.out | refine below_set ?_ GE203.out | refine below_set ?_ GE210.out | refine below_set ?_ GE218.out) | exact HB.out)) hb); have n15_ := Aside0.mk (hbox); have n16_ := Aside0.mk ((by rw [hg]; exact (below_size (by repeat (first | (with_reducible first | exact HB.out | apply below_alloc | apply pw_below_drewN | apply below_drew1 | refine below_set ?_ GE188.out | refine below_set ?_ GE203.out | refine below_set ?_ GE210.out | refine below_set ?_ GE218.out) | exact HB.out))) : w.heap.size ≤ gb248)); have n17_ := Aside0.mk ((by rw [hg]; exact (below_size (by repeat (first | (with_reducible first | exact HB.out | apply below_alloc | apply pw_below_drewN | apply below_drew1 | refine below_set ?_ GE188.out | refine below_set ?_ GE203.out | refine below_set ?_ GE210.out | refine below_set ?_ GE218.out) | exact HB.out))) : w.heap.size ≤ gb248)); have n18_ := Aside0.mk ((by rw [hg]; exact Nat.ne_of_lt (blk_lt (g := gb188) (o := .cells #[.slice A0_0 l0_0.length c0_0, .slice A0_1 l0_1.length c0_1] 37 (0, 0)) (by (with_reducible repeat (first | refine blk_drewN ?_ _ | refine blk_drew ?_ | refine blk_alloc ?_ _)); exact BK188.out)) : gb188 ≠ gb248)); have n19_ := Aside0.mk ((by rw [hg]; exact Nat.ne_of_gt (blk_lt (g := gb188) (o := .cells #[.slice A0_0 l0_0.length c0_0, .slice A0_1 l0_1.length c0_1] 37 (0, 0)) (by (with_reducible repeat (first | refine blk_drewN ?_ _ | refine blk_drew ?_ | refine blk_alloc ?_ _)); exact BK188.out)) : gb248 ≠ gb188)); have n20_ := Aside0.mk ((by rw [hg]; exact Nat.ne_of_lt (blk_lt (g := gb203) (o := .cells #[.slice Ao21 t196.length co21, .slice Ao24 t199.length co24] 26 (0, 0)) (by (with_reducible repeat (first | refine blk_drewN ?_ _ | refine blk_drew ?_ | refine blk_alloc ?_ _)); exact BK203.out)) : gb203 ≠ gb248)); have n21_ := Aside0.mk ((by rw [hg]; exact Nat.ne_of_gt (blk_lt (g := gb203) (o := .cells #[.slice Ao21 t196.length co21, .slice Ao24 t199.length co24] 26 (0, 0)) (by (with_reducible repeat (first | refine blk_drewN ?_ _ | refine blk_drew ?_ | refine blk_alloc ?_ _)); exact BK203.out)) : gb248 ≠ gb203)); have n22_ := Aside0.mk ((by rw [hg]; exact Nat.ne_of_lt (blk_lt (g := gb210) (o := .cells #[.slice Ao28 t228.length co28, .slice Ao32 t229.length co32] 26 (0, 0)) (by (with_reducible repeat (first | refine blk_drewN ?_ _ | refine blk_drew ?_ | refine blk_alloc ?_ _)); exact BK210.out)) : gb210 ≠ gb248)); have n23_ := Aside0.mk ((by rw [hg]; exact Nat.ne_of_gt (blk_lt (g := gb210) (o := .cells #[.slice Ao28 t228.length co28, .slice Ao32 t229.length co32] 26 (0, 0)) (by (with_reducible repeat (first | refine blk_drewN ?_ _ | refine blk_drew ?_ | refine blk_alloc ?_ _)); exact BK210.out)) : gb248 ≠ gb210)); have n24_ := Aside0.mk ((by rw [hg]; exact Nat.ne_of_lt (blk_lt (g := gb218) (o := .cells #[.slice Ao35 t211.length co35, .slice Ao40 t214.length co40] 26 (0, 0)) (by (with_reducible repeat (first | refine blk_drewN ?_ _ | refine blk_drew ?_ | refine blk_alloc ?_ _)); exact BK218.out)) : gb218 ≠ gb248)); have n25_ := Aside0.mk ((by rw [hg]; exact Nat.ne_of_gt (blk_lt (g := gb218) (o := .cells #[.slice Ao35 t211.length co35, .slice Ao40 t214.length co40] 26 (0, 0)) (by (with_reducible repeat (first | refine blk_drewN ?_ _ | refine blk_drew ?_ | refine blk_alloc ?_ _)); exact BK218.out)) : gb248 ≠ gb218)); clear HO_204000; clear HO_204001; clear HO_211000; clear HO_211001; clear HO_219000; clear HO_219001; clear HO237; clear HO240; clear HO243; clear HO246; clear BK188; clear BK203; clear BK210; clear BK218; clear HB; have HO_204000 := n0_; have HO_204001 := n1_; have HO_211000 := n2_; have HO_211001 := n3_; have HO_219000 := n4_; have HO_219001 := n5_; have HO237 := n6_; have HO240 := n7_; have HO243 := n8_; have HO246 := n9_; have BK188 := n10_; have BK203 := n11_; have BK210 := n12_; have BK218 := n13_; have HB := n14_; have BK248 := n15_; have GW248 := n16_; have GE248 := n17_; have NB188_248 := n18_; have NB248_188 := n19_; have NB203_248 := n20_; have NB248_203 := n21_; have NB210_248 := n22_; have NB248_210 := n23_; have NB218_248 := n24_; have NB248_218 := n25_; clear n0_ n1_ n2_ n3_ n4_ n5_ n6_ n7_ n8_ n9_ n10_ n11_ n12_ n13_ n14_ n15_ n16_ n17_ n18_ n19_ n20_ n21_ n22_ n23_ n24_ n25_; clear hb hbox hg; obtain ⟨Ao101, co101, eo101⟩ := Kd.R_slice HO243.out; subst eo101; have hnb102 := NB248_188.out; have hnc102 := NB188_248.out; have hnb103 := NB248_203.out; have hnc103 := NB203_248.out; have hnb104 := NB248_210.out; have hnc104 := NB210_248.out; have hnb105 := NB248_218.out; have hnc105 := NB218_248.out; have hcz106_0 : w100.cell? ⟨gb248, 0, none⟩ = some (.slice none 0 0) := (blk_cell BK248.out 0).trans rfl; have hcz106_1 : w100.cell? ⟨gb248, 1, none⟩ = some (.slice none 0 0) := (blk_cell BK248.out 1).trans rfl; have hfz106_0 := blk_frozen BK248.out 0; have hfz106_1 := blk_frozen BK248.out 1; obtain ⟨Ao107, co107, eo107⟩ := Kd.R_slice HO246.out; subst eo107))
                      (try simp only [Act.put, List.setIfInBounds_toArray, List.set_cons_zero, List.set_cons_succ])
                      go_cut [87] (fun v87 wc => ∃ (kq : Nat) (x87_84 : Bool), v87 = .bool x87_84 ∧ Aside0 (laws_FnExactShapeOf.j2 kq t231 x87_84 t232 t233 = some r) ∧ Aside0 (kq ≤ kj55) ∧ Aside0 (Kd.R (Kd.int .i64) 3 wc w.heap.size (fun k_ => some k_ ≠ ((.slice Ao24 t199.length co24) : Value).ownBlock ∧ some k_ ≠ ((.slice Ao28 t228.length co28) : Value).ownBlock ∧ some k_ ≠ ((.slice Ao32 t229.length co32) : Value).ownBlock ∧ some k_ ≠ ((.slice Ao35 t211.length co35) : Value).ownBlock ∧ some k_ ≠ ((.slice Ao40 t214.length co40) : Value).ownBlock ∧ some k_ ≠ ((.slice Ao101 t241.length co101) : Value).ownBlock ∧ some k_ ≠ ((.slice Ao107 t244.length co107) : Value).ownBlock) (.slice Ao21 t196.length co21) t196) ∧ Aside0 (Kd.R (Kd.int .i64) 3 wc w.heap.size (fun k_ => some k_ ≠ ((.slice Ao21 t196.length co21) : Value).ownBlock ∧ some k_ ≠ ((.slice Ao28 t228.length co28) : Value).ownBlock ∧ some k_ ≠ ((.slice Ao32 t229.length co32) : Value).ownBlock ∧ some k_ ≠ ((.slice Ao35 t211.length co35) : Value).ownBlock ∧ some k_ ≠ ((.slice Ao40 t214.length co40) : Value).ownBlock ∧ some k_ ≠ ((.slice Ao101 t241.length co101) : Value).ownBlock ∧ some k_ ≠ ((.slice Ao107 t244.length co107) : Value).ownBlock) (.slice Ao24 t199.length co24) t199) ∧ Aside0 (Kd.R (Kd.int .i64) 3 wc w.heap.size (fun k_ => some k_ ≠ ((.slice Ao21 t196.length co21) : Value).ownBlock ∧ some k_ ≠ ((.slice Ao24 t199.length co24) : Value).ownBlock ∧ some k_ ≠ ((.slice Ao32 t229.length co32) : Value).ownBlock ∧ some k_ ≠ ((.slice Ao35 t211.length co35) : Value).ownBlock ∧ some k_ ≠ ((.slice Ao40 t214.length co40) : Value).ownBlock ∧ some k_ ≠ ((.slice Ao101 t241.length co101) : Value).ownBlock ∧ some k_ ≠ ((.slice Ao107 t244.length co107) : Value).ownBlock) (.slice Ao28 t228.length co28) t228) ∧ Aside0 (Kd.R (Kd.int .i64) 3 wc w.heap.size (fun k_ => some k_ ≠ ((.slice Ao21 t196.length co21) : Value).ownBlock ∧ some k_ ≠ ((.slice Ao24 t199.length co24) : Value).ownBlock ∧ some k_ ≠ ((.slice Ao28 t228.length co28) : Value).ownBlock ∧ some k_ ≠ ((.slice Ao35 t211.length co35) : Value).ownBlock ∧ some k_ ≠ ((.slice Ao40 t214.length co40) : Value).ownBlock ∧ some k_ ≠ ((.slice Ao101 t241.length co101) : Value).ownBlock ∧ some k_ ≠ ((.slice Ao107 t244.length co107) : Value).ownBlock) (.slice Ao32 t229.length co32) t229) ∧ Aside0 (Kd.R (Kd.int .i64) 3 wc w.heap.size (fun k_ => some k_ ≠ ((.slice Ao21 t196.length co21) : Value).ownBlock ∧ some k_ ≠ ((.slice Ao24 t199.length co24) : Value).ownBlock ∧ some k_ ≠ ((.slice Ao28 t228.length co28) : Value).ownBlock ∧ some k_ ≠ ((.slice Ao32 t229.length co32) : Value).ownBlock ∧ some k_ ≠ ((.slice Ao40 t214.length co40) : Value).ownBlock ∧ some k_ ≠ ((.slice Ao101 t241.length co101) : Value).ownBlock ∧ some k_ ≠ ((.slice Ao107 t244.length co107) : Value).ownBlock) (.slice Ao35 t211.length co35) t232) ∧ Aside0 (Kd.R (Kd.int .i64) 3 wc w.heap.size (fun k_ => some k_ ≠ ((.slice Ao21 t196.length co21) : Value).ownBlock ∧ some k_ ≠ ((.slice Ao24 t199.length co24) : Value).ownBlock ∧ some k_ ≠ ((.slice Ao28 t228.length co28) : Value).ownBlock ∧ some k_ ≠ ((.slice Ao32 t229.length co32) : Value).ownBlock ∧ some k_ ≠ ((.slice Ao35 t211.length co35) : Value).ownBlock ∧ some k_ ≠ ((.slice Ao101 t241.length co101) : Value).ownBlock ∧ some k_ ≠ ((.slice Ao107 t244.length co107) : Value).ownBlock) (.slice Ao40 t214.length co40) t233) ∧ Aside0 (Kd.R (Kd.int .i64) 3 wc w.heap.size (fun k_ => some k_ ≠ ((.slice Ao21 t196.length co21) : Value).ownBlock ∧ some k_ ≠ ((.slice Ao24 t199.length co24) : Value).ownBlock ∧ some k_ ≠ ((.slice Ao28 t228.length co28) : Value).ownBlock ∧ some k_ ≠ ((.slice Ao32 t229.length co32) : Value).ownBlock ∧ some k_ ≠ ((.slice Ao35 t211.length co35) : Value).ownBlock ∧ some k_ ≠ ((.slice Ao40 t214.length co40) : Value).ownBlock ∧ some k_ ≠ ((.slice Ao107 t244.length co107) : Value).ownBlock) (.slice Ao101 t241.length co101) t241) ∧ Aside0 (Kd.R (Kd.int .i64) 3 wc w.heap.size (fun k_ => some k_ ≠ ((.slice Ao21 t196.length co21) : Value).ownBlock ∧ some k_ ≠ ((.slice Ao24 t199.length co24) : Value).ownBlock ∧ some k_ ≠ ((.slice Ao28 t228.length co28) : Value).ownBlock ∧ some k_ ≠ ((.slice Ao32 t229.length co32) : Value).ownBlock ∧ some k_ ≠ ((.slice Ao35 t211.length co35) : Value).ownBlock ∧ some k_ ≠ ((.slice Ao40 t214.length co40) : Value).ownBlock ∧ some k_ ≠ ((.slice Ao101 t241.length co101) : Value).ownBlock) (.slice Ao107 t244.length co107) t244) ∧ Aside0 (wc.heap[gb188]? = some (.cells #[(.slice A0_0 l0_0.length c0_0), (.slice A0_1 l0_1.length c0_1)] 37 (0, 0))) ∧ Aside0 (wc.heap[gb203]? = some (.cells #[(.slice Ao21 t196.length co21), (.slice Ao24 t199.length co24)] 26 (0, 0))) ∧ Aside0 (wc.heap[gb210]? = some (.cells #[(.slice Ao28 t228.length co28), (.slice Ao32 t229.length co32)] 26 (0, 0))) ∧ Aside0 (wc.heap[gb218]? = some (.cells #[(.slice Ao35 t211.length co35), (.slice Ao40 t214.length co40)] 26 (0, 0))) ∧ Aside0 (wc.heap[gb248]? = some (.cells #[(.slice Ao101 t241.length co101), (.slice Ao107 t244.length co107)] 26 (0, 0))) ∧ Aside0 (Below w.heap.size w wc))
                      case first =>
                        have H := HC85.out
                        clear HC85
                        replace H := Option.bind_eq_some_iff.mp H
                        obtain ⟨t249, A1080, H⟩ := H
                        replace H : (if t249 = true then (laws_FnExactShapeOf.j2 kj55 t231 (t247 != t202) t232 t233) else (laws_FnExactShapeOf.j2 kj55 t231 true t232 t233)) = some r := H
                        have A108 := Aside0.mk A1080
                        clear A1080
                        by_cases c109 : t249 = true
                        · subst c109
                          have H1 : (laws_FnExactShapeOf.j2 kj55 t231 (t247 != t202) t232 t233) = some r := by rw [if_pos rfl] at H; exact H
                          clear H
                          have H := H1
                          clear H1
                          have H' := Aside0.mk H
                          clear H
                          have hnb110 := NB248_188.out
                          have hnc110 := NB188_248.out
                          have hnb111 := NB248_203.out
                          have hnc111 := NB203_248.out
                          have hnb112 := NB248_210.out
                          have hnc112 := NB210_248.out
                          have hnb113 := NB248_218.out
                          have hnc113 := NB218_248.out
                          have hcz114_0 : w100.cell? ⟨gb248, 0, none⟩ = some (.slice none 0 0) := (blk_cell BK248.out 0).trans rfl
                          have hcz114_1 : w100.cell? ⟨gb248, 1, none⟩ = some (.slice none 0 0) := (blk_cell BK248.out 1).trans rfl
                          have hfz114_0 := blk_frozen BK248.out 0
                          have hfz114_1 := blk_frozen BK248.out 1
                          have hnb115 := NB203_188.out
                          have hnc115 := NB188_203.out
                          have hnb116 := NB203_210.out
                          have hnc116 := NB210_203.out
                          have hnb117 := NB203_218.out
                          have hnc117 := NB218_203.out
                          have hcz118_0 : w100.cell? ⟨gb203, 0, none⟩ = some (.slice Ao21 t196.length co21) := (blk_cell BK203.out 0).trans rfl
                          have hcz118_1 : w100.cell? ⟨gb203, 1, none⟩ = some (.slice Ao24 t199.length co24) := (blk_cell BK203.out 1).trans rfl
                          have hfz118_0 := blk_frozen BK203.out 0
                          have hfz118_1 := blk_frozen BK203.out 1
                          go_wp2_with (first | ((with_reducible refine gate_callee (f := 28) rfl ?_); refine goesL_ (some 81) rfl rfl Try.func28 (by kernel_rfl) rfl #[.agg #[.slice Ao101 t241.length co101, .slice Ao107 t244.length co107], .agg #[.slice Ao21 t196.length co21, .slice Ao24 t199.length co24]] rfl (by (try simp only [List.map_toArray, List.map_cons, List.map_nil]); first | done | rfl | (simp only [List.length_drop, List.length_take]; rfl)) ?_; (with_reducible refine (laws_eqArray.calls kj55 _ _ t241 _ _ t244 _ _ t196 _ _ t199 true _ ?side1 ?side2 ?side3 ?side4 ?side5 ?side6 ?side7 ?side8 A108.out).mono ?_); (case side1 => refine (Kd.R_reads' (e := 3) (base := w.heap.size) (ok := fun k_ => ((((((((some k_ ≠ (.slice Ao107 t244.length co107 : Value).ownBlock ∧ some k_ ≠ (.slice Ao21 t196.length co21 : Value).ownBlock) ∧ some k_ ≠ (.slice Ao24 t199.length co24 : Value).ownBlock) ∧ some k_ ≠ (.slice Ao28 t228.length co28 : Value).ownBlock) ∧ some k_ ≠ (.slice Ao32 t229.length co32 : Value).ownBlock) ∧ some k_ ≠ (.slice Ao35 t211.length co35 : Value).ownBlock) ∧ some k_ ≠ (.slice Ao40 t214.length co40 : Value).ownBlock) ∧ some k_ ≠ (.slice Ao97 t235.length co97 : Value).ownBlock) ∧ some k_ ≠ (.slice Ao98 t238.length co98 : Value).ownBlock)) (n := t241.length) (c := co101) ?_).2.2; exact (by (with_reducible repeat (first | apply Kd.R_alloc | apply Kd.R_drewN | apply Kd.R_drew)); exact (Kd.R_mono (Kd.R_far (p := ⟨gb248, 1, none⟩) (Kd.R_far (p := ⟨gb248, 0, none⟩) (Kd.R_types HO243.out BK248.out (by decide)) (fun _ hk => hk.2) (.slice Ao101 t241.length co101)) (fun _ hk => hk.2) (.slice Ao107 t244.length co107)) (fun _ h_ => h_.1)))); (case side2 => exact (Kd.R_reads' HO243.out).2.1); (case side3 => refine (Kd.R_reads' (e := 3) (base := w.heap.size) (ok := fun k_ => ((((((((some k_ ≠ (.slice Ao101 t241.length co101 : Value).ownBlock ∧ some k_ ≠ (.slice Ao21 t196.length co21 : Value).ownBlock) ∧ some k_ ≠ (.slice Ao24 t199.length co24 : Value).ownBlock) ∧ some k_ ≠ (.slice Ao28 t228.length co28 : Value).ownBlock) ∧ some k_ ≠ (.slice Ao32 t229.length co32 : Value).ownBlock) ∧ some k_ ≠ (.slice Ao35 t211.length co35 : Value).ownBlock) ∧ some k_ ≠ (.slice Ao40 t214.length co40 : Value).ownBlock) ∧ some k_ ≠ (.slice Ao97 t235.length co97 : Value).ownBlock) ∧ some k_ ≠ (.slice Ao98 t238.length co98 : Value).ownBlock)) (n := t244.length) (c := co107) ?_).2.2; exact (by (with_reducible repeat (first | apply Kd.R_alloc | apply Kd.R_drewN | apply Kd.R_drew)); exact (Kd.R_mono (Kd.R_far (p := ⟨gb248, 1, none⟩) (Kd.R_far (p := ⟨gb248, 0, none⟩) (Kd.R_types HO246.out BK248.out (by decide)) (fun _ hk => hk.2) (.slice Ao101 t241.length co101)) (fun _ hk => hk.2) (.slice Ao107 t244.length co107)) (fun _ h_ => h_.1)))); (case side4 => exact (Kd.R_reads' HO246.out).2.1); (case side5 => refine (Kd.R_reads' (e := 3) (base := w.heap.size) (ok := fun k_ => (((((some k_ ≠ (.slice Ao24 t199.length co24 : Value).ownBlock ∧ (some k_ ≠ (.slice Ao28 t228.length co28 : Value).ownBlock ∧ (some k_ ≠ (.slice Ao32 t229.length co32 : Value).ownBlock ∧ (some k_ ≠ (.slice Ao35 t211.length co35 : Value).ownBlock ∧ some k_ ≠ (.slice Ao40 t214.length co40 : Value).ownBlock)))) ∧ some k_ ≠ (.slice Ao97 t235.length co97 : Value).ownBlock) ∧ some k_ ≠ (.slice Ao98 t238.length co98 : Value).ownBlock) ∧ some k_ ≠ (.slice Ao101 t241.length co101 : Value).ownBlock) ∧ some k_ ≠ (.slice Ao107 t244.length co107 : Value).ownBlock)) (n := t196.length) (c := co21) ?_).2.2; exact (by (with_reducible repeat (first | apply Kd.R_alloc | apply Kd.R_drewN | apply Kd.R_drew)); exact (Kd.R_mono (Kd.R_far (p := ⟨gb248, 1, none⟩) (Kd.R_far (p := ⟨gb248, 0, none⟩) (Kd.R_types HO_204000.out BK248.out (by decide)) (fun _ hk => hk.2) (.slice Ao101 t241.length co101)) (fun _ hk => hk.2) (.slice Ao107 t244.length co107)) (fun _ h_ => h_.1)))); (case side6 => exact (Kd.R_reads' HO_204000.out).2.1); (case side7 => refine (Kd.R_reads' (e := 3) (base := w.heap.size) (ok := fun k_ => (((((some k_ ≠ (.slice Ao21 t196.length co21 : Value).ownBlock ∧ (some k_ ≠ (.slice Ao28 t228.length co28 : Value).ownBlock ∧ (some k_ ≠ (.slice Ao32 t229.length co32 : Value).ownBlock ∧ (some k_ ≠ (.slice Ao35 t211.length co35 : Value).ownBlock ∧ some k_ ≠ (.slice Ao40 t214.length co40 : Value).ownBlock)))) ∧ some k_ ≠ (.slice Ao97 t235.length co97 : Value).ownBlock) ∧ some k_ ≠ (.slice Ao98 t238.length co98 : Value).ownBlock) ∧ some k_ ≠ (.slice Ao101 t241.length co101 : Value).ownBlock) ∧ some k_ ≠ (.slice Ao107 t244.length co107 : Value).ownBlock)) (n := t199.length) (c := co24) ?_).2.2; exact (by (with_reducible repeat (first | apply Kd.R_alloc | apply Kd.R_drewN | apply Kd.R_drew)); exact (Kd.R_mono (Kd.R_far (p := ⟨gb248, 1, none⟩) (Kd.R_far (p := ⟨gb248, 0, none⟩) (Kd.R_types HO_204001.out BK248.out (by decide)) (fun _ hk => hk.2) (.slice Ao101 t241.length co101)) (fun _ hk => hk.2) (.slice Ao107 t244.length co107)) (fun _ h_ => h_.1)))); (case side8 => exact (Kd.R_reads' HO_204001.out).2.1); rintro e w119 ⟨rfl, hb⟩; refine ⟨_, rfl, ?_⟩; have n0_ := Aside0.mk (Kd.R_below (by (with_reducible repeat (first | apply Kd.R_alloc | apply Kd.R_drewN | apply Kd.R_drew)); exact (Kd.R_mono (Kd.R_far (p := ⟨gb248, 1, none⟩) (Kd.R_far (p := ⟨gb248, 0, none⟩) (Kd.R_types HO_204000.out BK248.out (by decide)) (fun _ hk => hk.2) (.slice Ao101 t241.length co101)) (fun _ hk => hk.2) (.slice Ao107 t244.length co107)) (fun _ h_ => h_.1))) hb); have n1_ := Aside0.mk (Kd.R_below (by (with_reducible repeat (first | apply Kd.R_alloc | apply Kd.R_drewN | apply Kd.R_drew)); exact (Kd.R_mono (Kd.R_far (p := ⟨gb248, 1, none⟩) (Kd.R_far (p := ⟨gb248, 0, none⟩) (Kd.R_types HO_204001.out BK248.out (by decide)) (fun _ hk => hk.2) (.slice Ao101 t241.length co101)) (fun _ hk => hk.2) (.slice Ao107 t244.length co107)) (fun _ h_ => h_.1))) hb); have n2_ := Aside0.mk (Kd.R_below (by (with_reducible repeat (first | apply Kd.R_alloc | apply Kd.R_drewN | apply Kd.R_drew)); exact (Kd.R_mono (Kd.R_far (p := ⟨gb248, 1, none⟩) (Kd.R_far (p := ⟨gb248, 0, none⟩) (Kd.R_types HO_211000.out BK248.out (by decide)) (fun _ hk => hk.2) (.slice Ao101 t241.length co101)) (fun _ hk => hk.2) (.slice Ao107 t244.length co107)) (fun _ h_ => h_.1))) hb); have n3_ := Aside0.mk (Kd.R_below (by (with_reducible repeat (first | apply Kd.R_alloc | apply Kd.R_drewN | apply Kd.R_drew)); exact (Kd.R_mono (Kd.R_far (p := ⟨gb248, 1, none⟩) (Kd.R_far (p := ⟨gb248, 0, none⟩) (Kd.R_types HO_211001.out BK248.out (by decide)) (fun _ hk => hk.2) (.slice Ao101 t241.length co101)) (fun _ hk => hk.2) (.slice Ao107 t244.length co107)) (fun _ h_ => h_.1))) hb); have n4_ := Aside0.mk (Kd.R_below (by (with_reducible repeat (first | apply Kd.R_alloc | apply Kd.R_drewN | apply Kd.R_drew)); exact (Kd.R_mono (Kd.R_far (p := ⟨gb248, 1, none⟩) (Kd.R_far (p := ⟨gb248, 0, none⟩) (Kd.R_types HO_219000.out BK248.out (by decide)) (fun _ hk => hk.2) (.slice Ao101 t241.length co101)) (fun _ hk => hk.2) (.slice Ao107 t244.length co107)) (fun _ h_ => h_.1))) hb); have n5_ := Aside0.mk (Kd.R_below (by (with_reducible repeat (first | apply Kd.R_alloc | apply Kd.R_drewN | apply Kd.R_drew)); exact (Kd.R_mono (Kd.R_far (p := ⟨gb248, 1, none⟩) (Kd.R_far (p := ⟨gb248, 0, none⟩) (Kd.R_types HO_219001.out BK248.out (by decide)) (fun _ hk => hk.2) (.slice Ao101 t241.length co101)) (fun _ hk => hk.2) (.slice Ao107 t244.length co107)) (fun _ h_ => h_.1))) hb); have n6_ := Aside0.mk (Kd.R_below (by (with_reducible repeat (first | apply Kd.R_alloc | apply Kd.R_drewN | apply Kd.R_drew)); exact (Kd.R_mono (Kd.R_far (p := ⟨gb248, 1, none⟩) (Kd.R_far (p := ⟨gb248, 0, none⟩) (Kd.R_types HO237.out BK248.out (by decide)) (fun _ hk => hk.2) (.slice Ao101 t241.length co101)) (fun _ hk => hk.2) (.slice Ao107 t244.length co107)) (fun _ h_ => h_.1))) hb); have n7_ := Aside0.mk (Kd.R_below (by (with_reducible repeat (first | apply Kd.R_alloc | apply Kd.R_drewN | apply Kd.R_drew)); exact (Kd.R_mono (Kd.R_far (p := ⟨gb248, 1, none⟩) (Kd.R_far (p := ⟨gb248, 0, none⟩) (Kd.R_types HO240.out BK248.out (by decide)) (fun _ hk => hk.2) (.slice Ao101 t241.length co101)) (fun _ hk => hk.2) (.slice Ao107 t244.length co107)) (fun _ h_ => h_.1))) hb); have n8_ := Aside0.mk (Kd.R_below (by (with_reducible repeat (first | apply Kd.R_alloc | apply Kd.R_drewN | apply Kd.R_drew)); exact (Kd.R_mono (Kd.R_far (p := ⟨gb248, 1, none⟩) (Kd.R_far (p := ⟨gb248, 0, none⟩) (Kd.R_types HO243.out BK248.out (by decide)) (fun _ hk => hk.2) (.slice Ao101 t241.length co101)) (fun _ hk => hk.2) (.slice Ao107 t244.length co107)) (fun _ h_ => h_.1))) hb); have n9_ := Aside0.mk (Kd.R_below (by (with_reducible repeat (first | apply Kd.R_alloc | apply Kd.R_drewN | apply Kd.R_drew)); exact (Kd.R_mono (Kd.R_far (p := ⟨gb248, 1, none⟩) (Kd.R_far (p := ⟨gb248, 0, none⟩) (Kd.R_types HO246.out BK248.out (by decide)) (fun _ hk => hk.2) (.slice Ao101 t241.length co101)) (fun _ hk => hk.2) (.slice Ao107 t244.length co107)) (fun _ h_ => h_.1))) hb); have n10_ := Aside0.mk (blk_below (g := gb188) (o := .cells #[.slice A0_0 l0_0.length c0_0, .slice A0_1 l0_1.length c0_1] 37 (0, 0)) (by (with_reducible repeat (first | refine blk_drewN ?_ _ | refine blk_drew ?_ | refine blk_alloc ?_ _)); refine blk_far ?_ NB188_248.out _; (with_reducible repeat (first | refine blk_drewN ?_ _ | refine blk_drew ?_ | refine blk_alloc ?_ _)); refine blk_far ?_ NB188_248.out _; (with_reducible repeat (first | refine blk_drewN ?_ _ | refine blk_drew ?_ | refine blk_alloc ?_ _)); exact BK188.out) hb); have n11_ := Aside0.mk (blk_below (g := gb203) (o := .cells #[.slice Ao21 t196.length co21, .slice Ao24 t199.length co24] 26 (0, 0)) (by (with_reducible repeat (first | refine blk_drewN ?_ _ | refine blk_drew ?_ | refine blk_alloc ?_ _)); refine blk_far ?_ NB203_248.out _; (with_reducible repeat (first | refine blk_drewN ?_ _ | refine blk_drew ?_ | refine blk_alloc ?_ _)); refine blk_far ?_ NB203_248.out _; (with_reducible repeat (first | refine blk_drewN ?_ _ | refine blk_drew ?_ | refine blk_alloc ?_ _)); exact BK203.out) hb); have n12_ := Aside0.mk (blk_below (g := gb210) (o := .cells #[.slice Ao28 t228.length co28, .slice Ao32 t229.length co32] 26 (0, 0)) (by (with_reducible repeat (first | refine blk_drewN ?_ _ | refine blk_drew ?_ | refine blk_alloc ?_ _)); refine blk_far ?_ NB210_248.out _; (with_reducible repeat (first | refine blk_drewN ?_ _ | refine blk_drew ?_ | refine blk_alloc ?_ _)); refine blk_far ?_ NB210_248.out _; (with_reducible repeat (first | refine blk_drewN ?_ _ | refine blk_drew ?_ | refine blk_alloc ?_ _)); exact BK210.out) hb); have n13_ := Aside0.mk (blk_below (g := gb218) (o := .cells #[.slice Ao35 t211.length co35, .slice Ao40 t214.length co40] 26 (0, 0)) (by (with_reducible repeat (first | refine blk_drewN ?_ _ | refine blk_drew ?_ | refine blk_alloc ?_ _)); refine blk_far ?_ NB218_248.out _; (with_reducible repeat (first | refine blk_drewN ?_ _ | refine blk_drew ?_ | refine blk_alloc ?_ _)); refine blk_far ?_ NB218_248.out _; (with_reducible repeat (first | refine blk_drewN ?_ _ | refine blk_drew ?_ | refine blk_alloc ?_ _)); exact BK218.out) hb); have n14_ := Aside0.mk (blk_below (g := gb248) (o := .cells #[.slice Ao101 t241.length co101, .slice Ao107 t244.length co107] 26 (0, 0)) (by (with_reducible repeat (first | refine blk_drewN ?_ _ | refine blk_drew ?_ | refine blk_alloc ?_ _)); refine blk_put (cs := #[.slice Ao101 t241.length co101, .slice none 0 0]) ?_ 1 _ rfl; (with_reducible repeat (first | refine blk_drewN ?_ _ | refine blk_drew ?_ | refine blk_alloc ?_ _)); refine blk_put (cs := #[.slice none 0 0, .slice none 0 0]) ?_ 0 _ rfl; (with_reducible repeat (first | refine blk_drewN ?_ _ | refine blk_drew ?_ | refine blk_alloc ?_ _)); exact BK248.out) hb); have n15_ := Aside0.mk (below_step (by repeat (first | (with_reducible first | exact HB.out | apply below_alloc | apply pw_below_drewN | apply below_drew1 | refine below_set ?_ GE188.out | refine below_set ?_ GE203.out | refine below_set ?_ GE210.out | refine below_set ?_ GE218.out | refine below_set ?_ GE248.out) | exact HB.out)) hb); clear HO_204000; clear HO_204001; clear HO_211000; clear HO_211001; clear HO_219000; clear HO_219001; clear HO237; clear HO240; clear HO243; clear HO246; clear BK188; clear BK203; clear BK210; clear BK218; clear BK248; clear HB; have HO_204000 := n0_; have HO_204001 := n1_; have HO_211000 := n2_; have HO_211001 := n3_; have HO_219000 := n4_; have HO_219001 := n5_; have HO237 := n6_; have HO240 := n7_; have HO243 := n8_; have HO246 := n9_; have BK188 := n10_; have BK203 := n11_; have BK210 := n12_; have BK218 := n13_; have BK248 := n14_; have HB := n15_; clear n0_ n1_ n2_ n3_ n4_ n5_ n6_ n7_ n8_ n9_ n10_ n11_ n12_ n13_ n14_ n15_; (try clear hb); (try clear hb2); (try clear hk); (try clear hi)))
                          go_meet
                          case rel => exact ⟨_, ((t247 != t202)), (by first | rfl | (simp; done) | (simp [*]; done)), H', ⟨by have := HJ10.out; have := HJ55.out; first | omega | exact Nat.le_refl _⟩, ⟨by (try simp only [hl211000_55]); (try simp only [hl211001_55]); (with_reducible repeat (first | apply Kd.R_alloc | apply Kd.R_drewN | apply Kd.R_drew)); exact Kd.R_mono HO_204000.out (fun _ hk => ⟨hk.1.1.1.1.1, ⟨hk.1.1.1.1.2.1, ⟨hk.1.1.1.1.2.2.1, ⟨hk.1.1.1.1.2.2.2.1, ⟨hk.1.1.1.1.2.2.2.2, ⟨hk.1.2, hk.2⟩⟩⟩⟩⟩⟩)⟩, ⟨by (try simp only [hl211000_55]); (try simp only [hl211001_55]); (with_reducible repeat (first | apply Kd.R_alloc | apply Kd.R_drewN | apply Kd.R_drew)); exact Kd.R_mono HO_204001.out (fun _ hk => ⟨hk.1.1.1.1.1, ⟨hk.1.1.1.1.2.1, ⟨hk.1.1.1.1.2.2.1, ⟨hk.1.1.1.1.2.2.2.1, ⟨hk.1.1.1.1.2.2.2.2, ⟨hk.1.2, hk.2⟩⟩⟩⟩⟩⟩)⟩, ⟨by (try simp only [hl211000_55]); (try simp only [hl211001_55]); (with_reducible repeat (first | apply Kd.R_alloc | apply Kd.R_drewN | apply Kd.R_drew)); exact Kd.R_mono HO_211000.out (fun _ hk => ⟨hk.1.1.1.1.1, ⟨hk.1.1.1.1.2.1, ⟨hk.1.1.1.1.2.2.1, ⟨hk.1.1.1.1.2.2.2.1, ⟨hk.1.1.1.1.2.2.2.2, ⟨hk.1.2, hk.2⟩⟩⟩⟩⟩⟩)⟩, ⟨by (try simp only [hl211000_55]); (try simp only [hl211001_55]); (with_reducible repeat (first | apply Kd.R_alloc | apply Kd.R_drewN | apply Kd.R_drew)); exact Kd.R_mono HO_211001.out (fun _ hk => ⟨hk.1.1.1.1.1, ⟨hk.1.1.1.1.2.1, ⟨hk.1.1.1.1.2.2.1, ⟨hk.1.1.1.1.2.2.2.1, ⟨hk.1.1.1.1.2.2.2.2, ⟨hk.1.2, hk.2⟩⟩⟩⟩⟩⟩)⟩, ⟨by (try simp only [hl211000_55]); (try simp only [hl211001_55]); (with_reducible repeat (first | apply Kd.R_alloc | apply Kd.R_drewN | apply Kd.R_drew)); exact Kd.R_mono HO_219000.out (fun _ hk => ⟨hk.1.1.1.1.1, ⟨hk.1.1.1.1.2.1, ⟨hk.1.1.1.1.2.2.1, ⟨hk.1.1.1.1.2.2.2.1, ⟨hk.1.1.1.1.2.2.2.2, ⟨hk.1.2, hk.2⟩⟩⟩⟩⟩⟩)⟩, ⟨by (try simp only [hl211000_55]); (try simp only [hl211001_55]); (with_reducible repeat (first | apply Kd.R_alloc | apply Kd.R_drewN | apply Kd.R_drew)); exact Kd.R_mono HO_219001.out (fun _ hk => ⟨hk.1.1.1.1.1, ⟨hk.1.1.1.1.2.1, ⟨hk.1.1.1.1.2.2.1, ⟨hk.1.1.1.1.2.2.2.1, ⟨hk.1.1.1.1.2.2.2.2, ⟨hk.1.2, hk.2⟩⟩⟩⟩⟩⟩)⟩, ⟨by (try simp only [hl211000_55]); (try simp only [hl211001_55]); (with_reducible repeat (first | apply Kd.R_alloc | apply Kd.R_drewN | apply Kd.R_drew)); exact Kd.R_mono HO243.out (fun _ hk => ⟨hk.1.1.1.1.1.1.1.2, ⟨hk.1.1.1.1.1.1.2, ⟨hk.1.1.1.1.1.2, ⟨hk.1.1.1.1.2, ⟨hk.1.1.1.2, ⟨hk.1.1.2, hk.1.1.1.1.1.1.1.1⟩⟩⟩⟩⟩⟩)⟩, ⟨by (try simp only [hl211000_55]); (try simp only [hl211001_55]); (with_reducible repeat (first | apply Kd.R_alloc | apply Kd.R_drewN | apply Kd.R_drew)); exact Kd.R_mono HO246.out (fun _ hk => ⟨hk.1.1.1.1.1.1.1.2, ⟨hk.1.1.1.1.1.1.2, ⟨hk.1.1.1.1.1.2, ⟨hk.1.1.1.1.2, ⟨hk.1.1.1.2, ⟨hk.1.1.2, hk.1.1.1.1.1.1.1.1⟩⟩⟩⟩⟩⟩)⟩, ⟨by (try simp only [hl211000_55]); (try simp only [hl211001_55]); (with_reducible repeat (first | refine blk_drewN ?_ _ | refine blk_drew ?_ | refine blk_alloc ?_ _)); exact BK188.out⟩, ⟨by (try simp only [hl211000_55]); (try simp only [hl211001_55]); (with_reducible repeat (first | refine blk_drewN ?_ _ | refine blk_drew ?_ | refine blk_alloc ?_ _)); exact BK203.out⟩, ⟨by (try simp only [hl211000_55]); (try simp only [hl211001_55]); (with_reducible repeat (first | refine blk_drewN ?_ _ | refine blk_drew ?_ | refine blk_alloc ?_ _)); exact BK210.out⟩, ⟨by (try simp only [hl211000_55]); (try simp only [hl211001_55]); (with_reducible repeat (first | refine blk_drewN ?_ _ | refine blk_drew ?_ | refine blk_alloc ?_ _)); exact BK218.out⟩, ⟨by (try simp only [hl211000_55]); (try simp only [hl211001_55]); (with_reducible repeat (first | refine blk_drewN ?_ _ | refine blk_drew ?_ | refine blk_alloc ?_ _)); exact BK248.out⟩, ⟨by repeat (first | (with_reducible first | exact HB.out | apply below_alloc | apply pw_below_drewN | apply below_drew1 | refine below_set ?_ GE188.out | refine below_set ?_ GE203.out | refine below_set ?_ GE210.out | refine below_set ?_ GE218.out | refine below_set ?_ GE248.out) | exact HB.out)⟩⟩
                        · replace c109 := Bool.eq_false_iff.mpr c109
                          subst c109
                          have H1 : (laws_FnExactShapeOf.j2 kj55 t231 true t232 t233) = some r := by rw [if_neg (show ¬ (false = true) by decide)] at H; exact H
                          clear H
                          have H := H1
                          clear H1
                          have hz_ : ∀ kz, laws_FnExactShapeOf.j2 kz t231 true t232 t233 = some r → r = false := by intro kz hz; cases kz with | zero => exact absurd hz (by simp [laws_FnExactShapeOf.j2]) | succ kz => simp only [laws_FnExactShapeOf.j2] at hz; first | (rw [if_pos rfl] at hz; exact (Option.some.inj hz).symm) | (simp at hz; exact hz.symm) | (simp at hz; exact hz)
                          exact absurd (HT.out.symm.trans (hz_ _ H)) (by decide)
                      case rest =>
                        clear HC85
                        try clear c1
                        try clear c2
                        try clear p2
                        try clear c3
                        try clear c3b0
                        try clear c4
                        try clear c5
                        try clear c6
                        try clear c7
                        try clear c8
                        try clear c9
                        try clear c10
                        try clear c11
                        try clear c22
                        try clear c23
                        try clear c25
                        try clear c28
                        try clear c29
                        try clear c30
                        try clear c32
                        try clear c33
                        try clear c34
                        try clear c35
                        try clear c36
                        try clear c37
                        try clear c38
                        try clear c42
                        try clear c43
                        try clear c44
                        try clear c45
                        try clear c47
                        try clear c48
                        try clear c51
                        try clear c54
                        try clear c62
                        try clear c63
                        try clear c64
                        try clear c67
                        try clear c67b0
                        try clear c69
                        try clear c70
                        try clear c71
                        try clear c72
                        try clear c74
                        try clear c75
                        try clear c78
                        try clear c81
                        try clear c81b0
                        try clear c82
                        try clear c82b0
                        try clear c82b1
                        try clear c86
                        try clear c87
                        try clear c88
                        try clear c93
                        try clear c94
                        try clear c102
                        try clear c103
                        try clear c104
                        try clear c105
                        try clear c109
                        try clear c110
                        try clear c111
                        try clear c112
                        try clear c113
                        try clear c115
                        try clear c116
                        try clear c117
                        try clear hcz106_0
                        try clear hcz106_1
                        try clear hcz114_0
                        try clear hcz114_1
                        try clear hcz118_0
                        try clear hcz118_1
                        try clear hcz13_0
                        try clear hcz13_1
                        try clear hcz15_0
                        try clear hcz15_1
                        try clear hcz23_0
                        try clear hcz23_1
                        try clear hcz25_0
                        try clear hcz25_1
                        try clear hcz31_0
                        try clear hcz31_1
                        try clear hcz39_0
                        try clear hcz39_1
                        try clear hcz46_0
                        try clear hcz46_1
                        try clear hcz49_0
                        try clear hcz49_1
                        try clear hcz5_0
                        try clear hcz5_1
                        try clear hcz65_0
                        try clear hcz65_1
                        try clear hcz73_0
                        try clear hcz73_1
                        try clear hcz76_0
                        try clear hcz76_1
                        try clear hcz89_0
                        try clear hcz89_1
                        try clear hcz91_0
                        try clear hcz91_1
                        try clear hcz95_0
                        try clear hcz95_1
                        try clear hfz106_0
                        try clear hfz106_1
                        try clear hfz114_0
                        try clear hfz114_1
                        try clear hfz118_0
                        try clear hfz118_1
                        try clear hfz13_0
                        try clear hfz13_1
                        try clear hfz15_0
                        try clear hfz15_1
                        try clear hfz23_0
                        try clear hfz23_1
                        try clear hfz25_0
                        try clear hfz25_1
                        try clear hfz31_0
                        try clear hfz31_1
                        try clear hfz39_0
                        try clear hfz39_1
                        try clear hfz46_0
                        try clear hfz46_1
                        try clear hfz49_0
                        try clear hfz49_1
                        try clear hfz5_0
                        try clear hfz5_1
                        try clear hfz65_0
                        try clear hfz65_1
                        try clear hfz73_0
                        try clear hfz73_1
                        try clear hfz76_0
                        try clear hfz76_1
                        try clear hfz89_0
                        try clear hfz89_1
                        try clear hfz91_0
                        try clear hfz91_1
                        try clear hfz95_0
                        try clear hfz95_1
                        try clear p2
                        obtain ⟨kq, x87_84, rfl, HA, HJ84, HO_204000, HO_204001, HO_211000, HO_211001, HO_219000, HO_219001, HO_249000, HO_249001, BK188, BK203, BK210, BK218, BK248, HB⟩ := hcut
                        have hl219000_84 := (Kd.R_reads' HO_219000.out).1
                        rw [hl219000_84] at HO_219000
                        (try simp only [hl219000_84])
                        (try simp only [hl219000_84] at BK188)
                        (try simp only [hl219000_84] at BK203)
                        (try simp only [hl219000_84] at BK210)
                        (try simp only [hl219000_84] at BK218)
                        (try simp only [hl219000_84] at BK248)
                        (try simp only [hl219000_84] at HO_204000)
                        (try simp only [hl219000_84] at HO_204001)
                        (try simp only [hl219000_84] at HO_211000)
                        (try simp only [hl219000_84] at HO_211001)
                        (try simp only [hl219000_84] at HO_219001)
                        (try simp only [hl219000_84] at HO_249000)
                        (try simp only [hl219000_84] at HO_249001)
                        have hl219001_84 := (Kd.R_reads' HO_219001.out).1
                        rw [hl219001_84] at HO_219001
                        (try simp only [hl219001_84])
                        (try simp only [hl219001_84] at BK188)
                        (try simp only [hl219001_84] at BK203)
                        (try simp only [hl219001_84] at BK210)
                        (try simp only [hl219001_84] at BK218)
                        (try simp only [hl219001_84] at BK248)
                        (try simp only [hl219001_84] at HO_204000)
                        (try simp only [hl219001_84] at HO_204001)
                        (try simp only [hl219001_84] at HO_211000)
                        (try simp only [hl219001_84] at HO_211001)
                        (try simp only [hl219001_84] at HO_219000)
                        (try simp only [hl219001_84] at HO_249000)
                        (try simp only [hl219001_84] at HO_249001)
                        cases kq with
                        | zero => exact absurd HA.out (by simp [laws_FnExactShapeOf.j2])
                        | succ kj84 =>
                          have H := HA.out
                          clear HA
                          simp only [laws_FnExactShapeOf.j2] at H
                          by_cases c120 : x87_84 = true
                          · subst c120
                            have H1 : (some false) = some r := by rw [if_pos rfl] at H; exact H
                            clear H
                            have H := H1
                            clear H1
                            obtain rfl := Option.some.inj H
                            exact absurd HT.out (by decide)
                          · replace c120 := Bool.eq_false_iff.mpr c120
                            subst c120
                            have H1 : ((laws_heldArray.f kj84 t232 t233 1).bind fun t250 => (if t250 < 0 then (some false) else (if t250 = t231 then (some true) else (some false)))) = some r := by rw [if_neg (show ¬ (false = true) by decide)] at H; exact H
                            clear H
                            have H := H1
                            clear H1
                            replace H := Option.bind_eq_some_iff.mp H
                            obtain ⟨t250, A1210, H⟩ := H
                            replace H : (if t250 < 0 then (some false) else (if t250 = t231 then (some true) else (some false))) = some r := H
                            have A121 := Aside0.mk A1210
                            clear A1210
                            by_cases c122 : t250 < 0
                            · rw [if_pos c122] at H
                              have c122b0 : decide (t250 < 0) = true := decide_eq_true c122
                              clear c122
                              obtain rfl := Option.some.inj H
                              exact absurd HT.out (by decide)
                            · rw [if_neg c122] at H
                              have c122b0 : decide (t250 < 0) = false := decide_eq_false c122
                              clear c122
                              by_cases c123 : t250 = t231
                              · rw [if_pos c123] at H
                                have c123b0 : (t250 == t231) = true := beq_iff_eq.mpr c123
                                have c123b1 : (t250 != t231) = false := bne_eq_false_iff_eq.mpr c123
                                clear c123
                                obtain rfl := Option.some.inj H
                                have hnb124 := NB218_188.out
                                have hnc124 := NB188_218.out
                                have hnb125 := NB218_203.out
                                have hnc125 := NB203_218.out
                                have hnb126 := NB218_210.out
                                have hnc126 := NB210_218.out
                                have hnb127 := NB218_248.out
                                have hnc127 := NB248_218.out
                                have hcz128_0 : wc.cell? ⟨gb218, 0, none⟩ = some (.slice Ao35 t232.length co35) := (blk_cell BK218.out 0).trans rfl
                                have hcz128_1 : wc.cell? ⟨gb218, 1, none⟩ = some (.slice Ao40 t233.length co40) := (blk_cell BK218.out 1).trans rfl
                                have hfz128_0 := blk_frozen BK218.out 0
                                have hfz128_1 := blk_frozen BK218.out 1
                                go_wp2_with (first | ((with_reducible refine gate_callee (f := 33) rfl ?_); refine goesL_ (some 90) rfl rfl Try.func33 (by kernel_rfl) rfl #[.agg #[.slice Ao35 t232.length co35, .slice Ao40 t233.length co40], .int .i64 1] rfl (by (try simp only [List.map_toArray, List.map_cons, List.map_nil]); first | done | rfl | (simp only [List.length_drop, List.length_take]; rfl)) ?_; (with_reducible refine (laws_heldArray.calls kj84 _ _ t232 _ _ t233 1 t250 _ ?side1 ?side2 ?side3 ?side4 A121.out).mono ?_); (case side1 => repeat (first | exact (Kd.R_reads' HO_219000.out).2.2 | (with_reducible refine Kd.C_alloc ?_ _) | (with_reducible refine Kd.C_drewN ?_ _) | (with_reducible refine Kd.C_drew ?_))); (case side2 => exact (Kd.R_reads' HO_219000.out).2.1); (case side3 => repeat (first | exact (Kd.R_reads' HO_219001.out).2.2 | (with_reducible refine Kd.C_alloc ?_ _) | (with_reducible refine Kd.C_drewN ?_ _) | (with_reducible refine Kd.C_drew ?_))); (case side4 => exact (Kd.R_reads' HO_219001.out).2.1); rintro e w129 ⟨rfl, hb⟩; refine ⟨_, rfl, ?_⟩; have n0_ := Aside0.mk (Kd.R_below (by (with_reducible repeat (first | apply Kd.R_alloc | apply Kd.R_drewN | apply Kd.R_drew)); exact HO_204000.out) hb); have n1_ := Aside0.mk (Kd.R_below (by (with_reducible repeat (first | apply Kd.R_alloc | apply Kd.R_drewN | apply Kd.R_drew)); exact HO_204001.out) hb); have n2_ := Aside0.mk (Kd.R_below (by (with_reducible repeat (first | apply Kd.R_alloc | apply Kd.R_drewN | apply Kd.R_drew)); exact HO_211000.out) hb); have n3_ := Aside0.mk (Kd.R_below (by (with_reducible repeat (first | apply Kd.R_alloc | apply Kd.R_drewN | apply Kd.R_drew)); exact HO_211001.out) hb); have n4_ := Aside0.mk (Kd.R_below (by (with_reducible repeat (first | apply Kd.R_alloc | apply Kd.R_drewN | apply Kd.R_drew)); exact HO_219000.out) hb); have n5_ := Aside0.mk (Kd.R_below (by (with_reducible repeat (first | apply Kd.R_alloc | apply Kd.R_drewN | apply Kd.R_drew)); exact HO_219001.out) hb); have n6_ := Aside0.mk (Kd.R_below (by (with_reducible repeat (first | apply Kd.R_alloc | apply Kd.R_drewN | apply Kd.R_drew)); exact HO_249000.out) hb); have n7_ := Aside0.mk (Kd.R_below (by (with_reducible repeat (first | apply Kd.R_alloc | apply Kd.R_drewN | apply Kd.R_drew)); exact HO_249001.out) hb); have n8_ := Aside0.mk (blk_below (g := gb188) (o := .cells #[.slice A0_0 l0_0.length c0_0, .slice A0_1 l0_1.length c0_1] 37 (0, 0)) (by (with_reducible repeat (first | refine blk_drewN ?_ _ | refine blk_drew ?_ | refine blk_alloc ?_ _)); exact BK188.out) hb); have n9_ := Aside0.mk (blk_below (g := gb203) (o := .cells #[.slice Ao21 t196.length co21, .slice Ao24 t199.length co24] 26 (0, 0)) (by (with_reducible repeat (first | refine blk_drewN ?_ _ | refine blk_drew ?_ | refine blk_alloc ?_ _)); exact BK203.out) hb); have n10_ := Aside0.mk (blk_below (g := gb210) (o := .cells #[.slice Ao28 t228.length co28, .slice Ao32 t229.length co32] 26 (0, 0)) (by (with_reducible repeat (first | refine blk_drewN ?_ _ | refine blk_drew ?_ | refine blk_alloc ?_ _)); exact BK210.out) hb); have n11_ := Aside0.mk (blk_below (g := gb218) (o := .cells #[.slice Ao35 t232.length co35, .slice Ao40 t233.length co40] 26 (0, 0)) (by (with_reducible repeat (first | refine blk_drewN ?_ _ | refine blk_drew ?_ | refine blk_alloc ?_ _)); exact BK218.out) hb); have n12_ := Aside0.mk (blk_below (g := gb248) (o := .cells #[.slice Ao101 t241.length co101, .slice Ao107 t244.length co107] 26 (0, 0)) (by (with_reducible repeat (first | refine blk_drewN ?_ _ | refine blk_drew ?_ | refine blk_alloc ?_ _)); exact BK248.out) hb); have n13_ := Aside0.mk (below_step (by repeat (first | (with_reducible first | exact HB.out | apply below_alloc | apply pw_below_drewN | apply below_drew1 | refine below_set ?_ GE188.out | refine below_set ?_ GE203.out | refine below_set ?_ GE210.out | refine below_set ?_ GE218.out | refine below_set ?_ GE248.out) | exact HB.out)) hb); clear HO_204000; clear HO_204001; clear HO_211000; clear HO_211001; clear HO_219000; clear HO_219001; clear HO_249000; clear HO_249001; clear BK188; clear BK203; clear BK210; clear BK218; clear BK248; clear HB; have HO_204000 := n0_; have HO_204001 := n1_; have HO_211000 := n2_; have HO_211001 := n3_; have HO_219000 := n4_; have HO_219001 := n5_; have HO_249000 := n6_; have HO_249001 := n7_; have BK188 := n8_; have BK203 := n9_; have BK210 := n10_; have BK218 := n11_; have BK248 := n12_; have HB := n13_; clear n0_ n1_ n2_ n3_ n4_ n5_ n6_ n7_ n8_ n9_ n10_ n11_ n12_ n13_; (try clear hb); (try clear hb2); (try clear hk); (try clear hi)))
                                go_ret
                                exact ⟨by first | rfl | (simp [errW_none, errW_some] <;> rfl) | (simp [*, errW_none, errW_some] <;> rfl), by repeat (first | (with_reducible first | exact HB.out | apply below_alloc | apply pw_below_drewN | apply below_drew1 | refine below_set ?_ GE188.out | refine below_set ?_ GE203.out | refine below_set ?_ GE210.out | refine below_set ?_ GE218.out | refine below_set ?_ GE248.out) | exact HB.out)⟩
                              · rw [if_neg c123] at H
                                have c123b0 : (t250 == t231) = false := beq_eq_false_iff_ne.mpr c123
                                have c123b1 : (t250 != t231) = true := bne_iff_ne.mpr c123
                                obtain rfl := Option.some.inj H
                                exact absurd HT.out (by decide)
                    · rw [if_neg c82] at H
                      have c82b0 : (t234 == t231) = false := beq_eq_false_iff_ne.mpr c82
                      have c82b1 : (t234 != t231) = true := bne_iff_ne.mpr c82
                      obtain rfl := Option.some.inj H
                      exact absurd HT.out (by decide)
          · replace c54 := Bool.eq_false_iff.mpr c54
            subst c54
            have H1 : (some false) = some r := by rw [if_neg (show ¬ (false = true) by decide)] at H; exact H
            clear H
            have H := H1
            clear H1
            obtain rfl := Option.some.inj H
            exact absurd HT.out (by decide)

end Go.Proofs.Ytlaikodjcjfeiaa.PFnExactShapeOf
