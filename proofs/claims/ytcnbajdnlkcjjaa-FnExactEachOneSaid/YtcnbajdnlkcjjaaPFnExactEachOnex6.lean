/- The walk of what a law reaches, for the law's row: written by a program of this session; it has no condition of its own. -/
import Derived.Test.YtcnbajdnlkcjjaaPFnExactEachOnex0
import Derived.Test.YtcnbajdnlkcjjaaPFnExactEachOnex1
import Derived.Test.YtcnbajdnlkcjjaaPFnExactEachOnex3
import Derived.Test.YtcnbajdnlkcjjaaPFnExactEachOnex5
namespace Go.Proofs.Ytcnbajdnlkcjjaa.PFnExactEachOne
open Go.RowKit Go.Proofs.YtcnbajdnlkcjjaaW.PrintWords Go.Proofs.YtcnbajdnlkcjjaaW.PrintLast Go.Proofs.YtcnbajdnlkcjjaaW.PrintMore
attribute [local go_sem] max2_int min2_int max_two min_two max_three min_three max_four min_four   -- for this text's walks alone
set_option linter.unusedVariables false
set_option linter.unusedSimpArgs false

/-! ### laws_FnExactEachOne: function 13 -/
mutual
def laws_FnExactEachOne.j0 : Nat → Int → Int → Int → Bool → List Int → List Int → List Int → List Int → List Int → List Int → List Int → List Int → Option (Bool)
  | 0, _, _, _, _, _, _, _, _, _, _, _, _ => none
  | k + 1, x0, x7, x10, x44, x218000, x218001, x233000, x233001, x240000, x240001, x248000, x248001 => if x44 = true then (some false) else ((laws_toArray.f k x218000 x218001).bind fun bt249 => ((laws_eqArray.f k x240000 x240001 bt249.1 bt249.2).bind fun t255 => (if t255 = true then ((laws_markArray.f k x240000 x240001 1).bind fun bt256 => (if bt256.1 < 0 then (laws_FnExactEachOne.j1 k x0 x7 true x218000 x218001 x233000 x233001 x248000 x248001) else ((laws_eqArray.f k x248000 x248001 x233000 x233001).bind fun t259 => (if t259 = true then (laws_FnExactEachOne.j1 k x0 x7 (x10 != x7) x218000 x218001 x233000 x233001 x248000 x248001) else (laws_FnExactEachOne.j1 k x0 x7 true x218000 x218001 x233000 x233001 x248000 x248001))))) else (some false))))
def laws_FnExactEachOne.j1 : Nat → Int → Int → Bool → List Int → List Int → List Int → List Int → List Int → List Int → Option (Bool)
  | 0, _, _, _, _, _, _, _, _, _ => none
  | k + 1, x0, x7, x65, x218000, x218001, x233000, x233001, x248000, x248001 => if x65 = true then (some false) else ((laws_markArray.f k x248000 x248001 1).bind fun bt260 => ((laws_heldArray.f k bt260.2.1 bt260.2.2 1).bind fun t263 => (if t263 < 0 then (some false) else (if t263 = bt260.1 then ((laws_toArray.f k x218000 x218001).bind fun bt264 => ((impl_EachOne.f k x0 bt264.1 bt264.2).bind fun bt270 => ((laws_eqArray.f k bt270.1 bt270.2.1 x233000 x233001).bind fun t278 => (if t278 = true then (laws_FnExactEachOne.j2 k bt260.1 (bt270.2.2 != x7) bt260.2.1 bt260.2.2) else (laws_FnExactEachOne.j2 k bt260.1 true bt260.2.1 bt260.2.2))))) else (some false)))))
def laws_FnExactEachOne.j2 : Nat → Int → Bool → List Int → List Int → Option (Bool)
  | 0, _, _, _, _ => none
  | k + 1, x12, x92, x248000, x248001 => if x92 = true then (some false) else ((laws_heldArray.f k x248000 x248001 1).bind fun t279 => (if t279 < 0 then (some false) else (if t279 = x12 then (some true) else (some false))))
end
def laws_FnExactEachOne.f (k : Nat) (a0 : Int) (l1_0 : List Int) (l1_1 : List Int) : Option (Bool) := (laws_szArray.f l1_0 l1_1 1048576).bind fun t218 => (if t218 < 0 then (some true) else ((laws_toArray.f k l1_0 l1_1).bind fun bt219 => ((spec_EachOne.f k a0 bt219.1 bt219.2).bind fun bt225 => ((laws_toArray.f k l1_0 l1_1).bind fun bt233 => ((impl_EachOne.f k a0 bt233.1 bt233.2).bind fun bt240 => ((laws_eqArray.f k bt240.1 bt240.2.1 bt225.1 bt225.2.1).bind fun t248 => (if t248 = true then (laws_FnExactEachOne.j0 k a0 bt225.2.2 bt240.2.2 (bt240.2.2 != bt225.2.2) l1_0 l1_1 bt225.1 bt225.2.1 bt233.1 bt233.2 bt240.1 bt240.2.1) else (laws_FnExactEachOne.j0 k a0 bt225.2.2 bt240.2.2 true l1_0 l1_1 bt225.1 bt225.2.1 bt233.1 bt233.2 bt240.1 bt240.2.1))))))))
theorem laws_FnExactEachOne.mono_l : ∀ k, (∀ y0 y1 y2 y3 y4 y5 y6 y7 y8 y9 y10 y11, LeO (laws_FnExactEachOne.j0 k y0 y1 y2 y3 y4 y5 y6 y7 y8 y9 y10 y11) (laws_FnExactEachOne.j0 (k + 1) y0 y1 y2 y3 y4 y5 y6 y7 y8 y9 y10 y11)) ∧ (∀ y0 y1 y2 y3 y4 y5 y6 y7 y8, LeO (laws_FnExactEachOne.j1 k y0 y1 y2 y3 y4 y5 y6 y7 y8) (laws_FnExactEachOne.j1 (k + 1) y0 y1 y2 y3 y4 y5 y6 y7 y8)) ∧ (∀ y0 y1 y2 y3, LeO (laws_FnExactEachOne.j2 k y0 y1 y2 y3) (laws_FnExactEachOne.j2 (k + 1) y0 y1 y2 y3))
  | 0 => ⟨fun _ _ _ _ _ _ _ _ _ _ _ _ r h => by simp [laws_FnExactEachOne.j0] at h, fun _ _ _ _ _ _ _ _ _ r h => by simp [laws_FnExactEachOne.j1] at h, fun _ _ _ _ r h => by simp [laws_FnExactEachOne.j2] at h⟩
  | k + 1 => by
    obtain ⟨ih0, ih1, ih2⟩ := laws_FnExactEachOne.mono_l k
    refine ⟨?_, ?_, ?_⟩
    · intro y0 y1 y2 y3 y4 y5 y6 y7 y8 y9 y10 y11
      unfold laws_FnExactEachOne.j0
      repeat' first
      | (with_reducible exact ih0 _ _ _ _ _ _ _ _ _ _ _ _)
      | (with_reducible exact ih1 _ _ _ _ _ _ _ _ _)
      | (with_reducible exact ih2 _ _ _ _)
      | (with_reducible exact impl_EachOne.mono _ _ _ _)
      | (with_reducible exact laws_eqArray.mono _ _ _ _ _)
      | (with_reducible exact laws_heldArray.mono _ _ _ _)
      | (with_reducible exact laws_markArray.mono _ _ _ _)
      | (with_reducible exact laws_toArray.mono _ _ _)
      | (with_reducible exact spec_EachOne.mono _ _ _ _)
      | (with_reducible exact LeO.refl _)
      | (with_reducible exact LeO.none _)
      | (with_reducible refine LeO.ite ?_ ?_)
      | (with_reducible refine LeO.bind ?_ (fun _ => ?_))
      | exact ih0 _ _ _ _ _ _ _ _ _ _ _ _
      | exact ih1 _ _ _ _ _ _ _ _ _
      | exact ih2 _ _ _ _
      | exact impl_EachOne.mono _ _ _ _
      | exact laws_eqArray.mono _ _ _ _ _
      | exact laws_heldArray.mono _ _ _ _
      | exact laws_markArray.mono _ _ _ _
      | exact laws_toArray.mono _ _ _
      | exact spec_EachOne.mono _ _ _ _
      | exact LeO.none _
      | refine LeO.ite ?_ ?_
      | refine LeO.bind ?_ (fun _ => ?_)
    · intro y0 y1 y2 y3 y4 y5 y6 y7 y8
      unfold laws_FnExactEachOne.j1
      repeat' first
      | (with_reducible exact ih0 _ _ _ _ _ _ _ _ _ _ _ _)
      | (with_reducible exact ih1 _ _ _ _ _ _ _ _ _)
      | (with_reducible exact ih2 _ _ _ _)
      | (with_reducible exact impl_EachOne.mono _ _ _ _)
      | (with_reducible exact laws_eqArray.mono _ _ _ _ _)
      | (with_reducible exact laws_heldArray.mono _ _ _ _)
      | (with_reducible exact laws_markArray.mono _ _ _ _)
      | (with_reducible exact laws_toArray.mono _ _ _)
      | (with_reducible exact spec_EachOne.mono _ _ _ _)
      | (with_reducible exact LeO.refl _)
      | (with_reducible exact LeO.none _)
      | (with_reducible refine LeO.ite ?_ ?_)
      | (with_reducible refine LeO.bind ?_ (fun _ => ?_))
      | exact ih0 _ _ _ _ _ _ _ _ _ _ _ _
      | exact ih1 _ _ _ _ _ _ _ _ _
      | exact ih2 _ _ _ _
      | exact impl_EachOne.mono _ _ _ _
      | exact laws_eqArray.mono _ _ _ _ _
      | exact laws_heldArray.mono _ _ _ _
      | exact laws_markArray.mono _ _ _ _
      | exact laws_toArray.mono _ _ _
      | exact spec_EachOne.mono _ _ _ _
      | exact LeO.none _
      | refine LeO.ite ?_ ?_
      | refine LeO.bind ?_ (fun _ => ?_)
    · intro y0 y1 y2 y3
      unfold laws_FnExactEachOne.j2
      repeat' first
      | (with_reducible exact ih0 _ _ _ _ _ _ _ _ _ _ _ _)
      | (with_reducible exact ih1 _ _ _ _ _ _ _ _ _)
      | (with_reducible exact ih2 _ _ _ _)
      | (with_reducible exact impl_EachOne.mono _ _ _ _)
      | (with_reducible exact laws_eqArray.mono _ _ _ _ _)
      | (with_reducible exact laws_heldArray.mono _ _ _ _)
      | (with_reducible exact laws_markArray.mono _ _ _ _)
      | (with_reducible exact laws_toArray.mono _ _ _)
      | (with_reducible exact spec_EachOne.mono _ _ _ _)
      | (with_reducible exact LeO.refl _)
      | (with_reducible exact LeO.none _)
      | (with_reducible refine LeO.ite ?_ ?_)
      | (with_reducible refine LeO.bind ?_ (fun _ => ?_))
      | exact ih0 _ _ _ _ _ _ _ _ _ _ _ _
      | exact ih1 _ _ _ _ _ _ _ _ _
      | exact ih2 _ _ _ _
      | exact impl_EachOne.mono _ _ _ _
      | exact laws_eqArray.mono _ _ _ _ _
      | exact laws_heldArray.mono _ _ _ _
      | exact laws_markArray.mono _ _ _ _
      | exact laws_toArray.mono _ _ _
      | exact spec_EachOne.mono _ _ _ _
      | exact LeO.none _
      | refine LeO.ite ?_ ?_
      | refine LeO.bind ?_ (fun _ => ?_)
theorem laws_FnExactEachOne.mono : ∀ a0 a1 a2 k, LeO (laws_FnExactEachOne.f k a0 a1 a2) (laws_FnExactEachOne.f (k + 1) a0 a1 a2) := by
  intro a0 a1 a2 k
  obtain ⟨ih0, ih1, ih2⟩ := laws_FnExactEachOne.mono_l k
  unfold laws_FnExactEachOne.f
  repeat' first
      | (with_reducible exact ih0 _ _ _ _ _ _ _ _ _ _ _ _)
      | (with_reducible exact ih1 _ _ _ _ _ _ _ _ _)
      | (with_reducible exact ih2 _ _ _ _)
      | (with_reducible exact impl_EachOne.mono _ _ _ _)
      | (with_reducible exact laws_eqArray.mono _ _ _ _ _)
      | (with_reducible exact laws_heldArray.mono _ _ _ _)
      | (with_reducible exact laws_markArray.mono _ _ _ _)
      | (with_reducible exact laws_toArray.mono _ _ _)
      | (with_reducible exact spec_EachOne.mono _ _ _ _)
      | (with_reducible exact LeO.refl _)
      | (with_reducible exact LeO.none _)
      | (with_reducible refine LeO.ite ?_ ?_)
      | (with_reducible refine LeO.bind ?_ (fun _ => ?_))
      | exact ih0 _ _ _ _ _ _ _ _ _ _ _ _
      | exact ih1 _ _ _ _ _ _ _ _ _
      | exact ih2 _ _ _ _
      | exact impl_EachOne.mono _ _ _ _
      | exact laws_eqArray.mono _ _ _ _ _
      | exact laws_heldArray.mono _ _ _ _
      | exact laws_markArray.mono _ _ _ _
      | exact laws_toArray.mono _ _ _
      | exact spec_EachOne.mono _ _ _ _
      | exact LeO.none _
      | refine LeO.ite ?_ ?_
      | refine LeO.bind ?_ (fun _ => ?_)
set_option maxHeartbeats 8000000 in
set_option maxRecDepth 100000 in
theorem laws_FnExactEachOne.calls (k : Nat) (a0 : Int) (A1_0 : Option Addr) (c1_0 : Nat) (l1_0 : List Int) (A1_1 : Option Addr) (c1_1 : Nat) (l1_1 : List Int) (r : Bool) (w : World) (hr1_0 : Kd.C (Kd.int .i64) w A1_0 l1_0.length l1_0) (hc1_0 : l1_0.length ≤ c1_0) (hr1_1 : Kd.C (Kd.int .i64) w A1_1 l1_1.length l1_1) (hc1_1 : l1_1.length ≤ c1_1) (h : laws_FnExactEachOne.f k a0 l1_0 l1_1 = some r) (hT : r = true) :
    Calls Try.prog 13 #[.int .i64 a0, .agg #[.slice A1_0 l1_0.length c1_0, .slice A1_1 l1_1.length c1_1]] w fun e w' => e = .returned (.bool r) ∧ Below w.heap.size w w' := by
  have HT := Aside0.mk hT
  clear hT
  have hu24 := Try.underlying24
  have hu26 := Try.underlying26
  have HR1_0 := Aside0.mk hr1_0
  have HC1_0 := Aside0.mk hc1_0
  clear hr1_0 hc1_0
  have HR1_1 := Aside0.mk hr1_1
  have HC1_1 := Aside0.mk hc1_1
  clear hr1_1 hc1_1
  have HB := Aside0.mk (Below.refl w.heap.size w)
  have H : ((laws_szArray.f l1_0 l1_1 1048576).bind fun t218 => (if t218 < 0 then (some true) else ((laws_toArray.f k l1_0 l1_1).bind fun bt219 => ((spec_EachOne.f k a0 bt219.1 bt219.2).bind fun bt225 => ((laws_toArray.f k l1_0 l1_1).bind fun bt233 => ((impl_EachOne.f k a0 bt233.1 bt233.2).bind fun bt240 => ((laws_eqArray.f k bt240.1 bt240.2.1 bt225.1 bt225.2.1).bind fun t248 => (if t248 = true then (laws_FnExactEachOne.j0 k a0 bt225.2.2 bt240.2.2 (bt240.2.2 != bt225.2.2) l1_0 l1_1 bt225.1 bt225.2.1 bt233.1 bt233.2 bt240.1 bt240.2.1) else (laws_FnExactEachOne.j0 k a0 bt225.2.2 bt240.2.2 true l1_0 l1_1 bt225.1 bt225.2.1 bt233.1 bt233.2 bt240.1 bt240.2.1))))))))) = some r := h
  clear h
  replace H := Option.bind_eq_some_iff.mp H
  obtain ⟨t218, A30, H⟩ := H
  replace H : (if t218 < 0 then (some true) else ((laws_toArray.f k l1_0 l1_1).bind fun bt219 => ((spec_EachOne.f k a0 bt219.1 bt219.2).bind fun bt225 => ((laws_toArray.f k l1_0 l1_1).bind fun bt233 => ((impl_EachOne.f k a0 bt233.1 bt233.2).bind fun bt240 => ((laws_eqArray.f k bt240.1 bt240.2.1 bt225.1 bt225.2.1).bind fun t248 => (if t248 = true then (laws_FnExactEachOne.j0 k a0 bt225.2.2 bt240.2.2 (bt240.2.2 != bt225.2.2) l1_0 l1_1 bt225.1 bt225.2.1 bt233.1 bt233.2 bt240.1 bt240.2.1) else (laws_FnExactEachOne.j0 k a0 bt225.2.2 bt240.2.2 true l1_0 l1_1 bt225.1 bt225.2.1 bt233.1 bt233.2 bt240.1 bt240.2.1)))))))) = some r := H
  have A3 := Aside0.mk A30
  clear A30
  by_cases c4 : t218 < 0
  · rw [if_pos c4] at H
    have c4b0 : decide (t218 < 0) = true := decide_eq_true c4
    clear c4
    obtain rfl := Option.some.inj H
    go_enter Try.func13, Try.ntmps13
    go_wp2_with (first | ((with_reducible refine gate_dst (N := 3) rfl ?_); refine box_event ?hg (N := 3) ?hd (cs := #[.slice A1_0 l1_0.length c1_0, .slice A1_1 l1_1.length c1_1]) (t := 24) ?hr ?_; (case hd => rfl); (case hg => rfl); (case hr => first | (go_simp; done) | (go_simp; rfl)); intro gb217 hg w5 hbox hb; have n0_ := Aside0.mk (below_step (by repeat (first | (with_reducible first | exact HB.out | apply below_alloc | apply pw_below_drewN | apply below_drew1) | exact HB.out)) hb); have n1_ := Aside0.mk (hbox); have n2_ := Aside0.mk ((by rw [hg]; exact (below_size (by repeat (first | (with_reducible first | exact HB.out | apply below_alloc | apply pw_below_drewN | apply below_drew1) | exact HB.out))) : w.heap.size ≤ gb217)); have n3_ := Aside0.mk ((by rw [hg]; exact (below_size (by repeat (first | (with_reducible first | exact HB.out | apply below_alloc | apply pw_below_drewN | apply below_drew1) | exact HB.out))) : w.heap.size ≤ gb217)); clear HB; have HB := n0_; have BK217 := n1_; have GW217 := n2_; have GE217 := n3_; clear n0_ n1_ n2_ n3_; clear hb hbox hg; have hcz6_0 : w5.cell? ⟨gb217, 0, none⟩ = some (.slice A1_0 l1_0.length c1_0) := (blk_cell BK217.out 0).trans rfl; have hcz6_1 : w5.cell? ⟨gb217, 1, none⟩ = some (.slice A1_1 l1_1.length c1_1) := (blk_cell BK217.out 1).trans rfl; have hfz6_0 := blk_frozen BK217.out 0; have hfz6_1 := blk_frozen BK217.out 1) | ((with_reducible refine gate_callee (f := 15) rfl ?_); refine goesL_ (some 18) rfl rfl Try.func15 (by kernel_rfl) rfl #[.agg #[.slice A1_0 l1_0.length c1_0, .slice A1_1 l1_1.length c1_1], .int .i64 1048576] rfl (by (try simp only [List.map_toArray, List.map_cons, List.map_nil]); first | done | rfl | (simp only [List.length_drop, List.length_take]; rfl)) ?_; (with_reducible refine (laws_szArray.calls _ _ l1_0 _ _ l1_1 1048576 t218 _ ?side1 ?side2 ?side3 ?side4 A3.out).mono ?_); (case side1 => repeat (first | exact (Kd.C_below HR1_0.out HB.out) | (with_reducible refine Kd.C_alloc ?_ _) | (with_reducible refine Kd.C_drewN ?_ _) | (with_reducible refine Kd.C_drew ?_))); (case side2 => exact HC1_0.out); (case side3 => repeat (first | exact (Kd.C_below HR1_1.out HB.out) | (with_reducible refine Kd.C_alloc ?_ _) | (with_reducible refine Kd.C_drewN ?_ _) | (with_reducible refine Kd.C_drew ?_))); (case side4 => exact HC1_1.out); rintro e w7 ⟨rfl, hb⟩; refine ⟨_, rfl, ?_⟩; have n0_ := Aside0.mk (blk_below (g := gb217) (o := .cells #[.slice A1_0 l1_0.length c1_0, .slice A1_1 l1_1.length c1_1] 24 (0, 0)) (by (with_reducible repeat (first | refine blk_drewN ?_ _ | refine blk_drew ?_ | refine blk_alloc ?_ _)); exact BK217.out) hb); have n1_ := Aside0.mk (below_step (by repeat (first | (with_reducible first | exact HB.out | apply below_alloc | apply pw_below_drewN | apply below_drew1 | refine below_set ?_ GE217.out) | exact HB.out)) hb); clear BK217; clear HB; have BK217 := n0_; have HB := n1_; clear n0_ n1_; (try clear hb); (try clear hb2); (try clear hk); (try clear hi)))
    go_ret
    exact ⟨by first | rfl | (simp [errW_none, errW_some] <;> rfl) | (simp [*, errW_none, errW_some] <;> rfl), by repeat (first | (with_reducible first | exact HB.out | apply below_alloc | apply pw_below_drewN | apply below_drew1 | refine below_set ?_ GE217.out) | exact HB.out)⟩
  · rw [if_neg c4] at H
    have c4b0 : decide (t218 < 0) = false := decide_eq_false c4
    clear c4
    replace H := Option.bind_eq_some_iff.mp H
    obtain ⟨⟨t219, t222⟩, A80, H⟩ := H
    replace H : ((spec_EachOne.f k a0 t219 t222).bind fun bt225 => ((laws_toArray.f k l1_0 l1_1).bind fun bt233 => ((impl_EachOne.f k a0 bt233.1 bt233.2).bind fun bt240 => ((laws_eqArray.f k bt240.1 bt240.2.1 bt225.1 bt225.2.1).bind fun t248 => (if t248 = true then (laws_FnExactEachOne.j0 k a0 bt225.2.2 bt240.2.2 (bt240.2.2 != bt225.2.2) l1_0 l1_1 bt225.1 bt225.2.1 bt233.1 bt233.2 bt240.1 bt240.2.1) else (laws_FnExactEachOne.j0 k a0 bt225.2.2 bt240.2.2 true l1_0 l1_1 bt225.1 bt225.2.1 bt233.1 bt233.2 bt240.1 bt240.2.1)))))) = some r := H
    have A8 := Aside0.mk A80
    clear A80
    replace H := Option.bind_eq_some_iff.mp H
    obtain ⟨⟨t225, t228, t231⟩, A90, H⟩ := H
    replace H : ((laws_toArray.f k l1_0 l1_1).bind fun bt233 => ((impl_EachOne.f k a0 bt233.1 bt233.2).bind fun bt240 => ((laws_eqArray.f k bt240.1 bt240.2.1 t225 t228).bind fun t248 => (if t248 = true then (laws_FnExactEachOne.j0 k a0 t231 bt240.2.2 (bt240.2.2 != t231) l1_0 l1_1 t225 t228 bt233.1 bt233.2 bt240.1 bt240.2.1) else (laws_FnExactEachOne.j0 k a0 t231 bt240.2.2 true l1_0 l1_1 t225 t228 bt233.1 bt233.2 bt240.1 bt240.2.1))))) = some r := H
    have A9 := Aside0.mk A90
    clear A90
    replace H := Option.bind_eq_some_iff.mp H
    obtain ⟨⟨t233, t236⟩, A100, H⟩ := H
    replace H : ((impl_EachOne.f k a0 t233 t236).bind fun bt240 => ((laws_eqArray.f k bt240.1 bt240.2.1 t225 t228).bind fun t248 => (if t248 = true then (laws_FnExactEachOne.j0 k a0 t231 bt240.2.2 (bt240.2.2 != t231) l1_0 l1_1 t225 t228 t233 t236 bt240.1 bt240.2.1) else (laws_FnExactEachOne.j0 k a0 t231 bt240.2.2 true l1_0 l1_1 t225 t228 t233 t236 bt240.1 bt240.2.1)))) = some r := H
    have A10 := Aside0.mk A100
    clear A100
    replace H := Option.bind_eq_some_iff.mp H
    obtain ⟨⟨t240, t243, t246⟩, A110, H⟩ := H
    replace H : ((laws_eqArray.f k t240 t243 t225 t228).bind fun t248 => (if t248 = true then (laws_FnExactEachOne.j0 k a0 t231 t246 (t246 != t231) l1_0 l1_1 t225 t228 t233 t236 t240 t243) else (laws_FnExactEachOne.j0 k a0 t231 t246 true l1_0 l1_1 t225 t228 t233 t236 t240 t243))) = some r := H
    have A11 := Aside0.mk A110
    clear A110
    have HC12 := Aside0.mk H
    clear H
    go_enter Try.func13, Try.ntmps13
    go_upto_region 8 with (first | ((with_reducible refine gate_dst (N := 3) rfl ?_); refine box_event ?hg (N := 3) ?hd (cs := #[.slice A1_0 l1_0.length c1_0, .slice A1_1 l1_1.length c1_1]) (t := 24) ?hr ?_; (case hd => rfl); (case hg => rfl); (case hr => first | (go_simp; done) | (go_simp; rfl)); intro gb217 hg w13 hbox hb; have n0_ := Aside0.mk (below_step (by repeat (first | (with_reducible first | exact HB.out | apply below_alloc | apply pw_below_drewN | apply below_drew1) | exact HB.out)) hb); have n1_ := Aside0.mk (hbox); have n2_ := Aside0.mk ((by rw [hg]; exact (below_size (by repeat (first | (with_reducible first | exact HB.out | apply below_alloc | apply pw_below_drewN | apply below_drew1) | exact HB.out))) : w.heap.size ≤ gb217)); have n3_ := Aside0.mk ((by rw [hg]; exact (below_size (by repeat (first | (with_reducible first | exact HB.out | apply below_alloc | apply pw_below_drewN | apply below_drew1) | exact HB.out))) : w.heap.size ≤ gb217)); clear HB; have HB := n0_; have BK217 := n1_; have GW217 := n2_; have GE217 := n3_; clear n0_ n1_ n2_ n3_; clear hb hbox hg; have hcz14_0 : w13.cell? ⟨gb217, 0, none⟩ = some (.slice A1_0 l1_0.length c1_0) := (blk_cell BK217.out 0).trans rfl; have hcz14_1 : w13.cell? ⟨gb217, 1, none⟩ = some (.slice A1_1 l1_1.length c1_1) := (blk_cell BK217.out 1).trans rfl; have hfz14_0 := blk_frozen BK217.out 0; have hfz14_1 := blk_frozen BK217.out 1) | ((with_reducible refine gate_callee (f := 15) rfl ?_); refine goesL_ (some 18) rfl rfl Try.func15 (by kernel_rfl) rfl #[.agg #[.slice A1_0 l1_0.length c1_0, .slice A1_1 l1_1.length c1_1], .int .i64 1048576] rfl (by (try simp only [List.map_toArray, List.map_cons, List.map_nil]); first | done | rfl | (simp only [List.length_drop, List.length_take]; rfl)) ?_; (with_reducible refine (laws_szArray.calls _ _ l1_0 _ _ l1_1 1048576 t218 _ ?side1 ?side2 ?side3 ?side4 A3.out).mono ?_); (case side1 => repeat (first | exact (Kd.C_below HR1_0.out HB.out) | (with_reducible refine Kd.C_alloc ?_ _) | (with_reducible refine Kd.C_drewN ?_ _) | (with_reducible refine Kd.C_drew ?_))); (case side2 => exact HC1_0.out); (case side3 => repeat (first | exact (Kd.C_below HR1_1.out HB.out) | (with_reducible refine Kd.C_alloc ?_ _) | (with_reducible refine Kd.C_drewN ?_ _) | (with_reducible refine Kd.C_drew ?_))); (case side4 => exact HC1_1.out); rintro e w15 ⟨rfl, hb⟩; refine ⟨_, rfl, ?_⟩; have n0_ := Aside0.mk (blk_below (g := gb217) (o := .cells #[.slice A1_0 l1_0.length c1_0, .slice A1_1 l1_1.length c1_1] 24 (0, 0)) (by (with_reducible repeat (first | refine blk_drewN ?_ _ | refine blk_drew ?_ | refine blk_alloc ?_ _)); exact BK217.out) hb); have n1_ := Aside0.mk (below_step (by repeat (first | (with_reducible first | exact HB.out | apply below_alloc | apply pw_below_drewN | apply below_drew1 | refine below_set ?_ GE217.out) | exact HB.out)) hb); clear BK217; clear HB; have BK217 := n0_; have HB := n1_; clear n0_ n1_; (try clear hb); (try clear hb2); (try clear hk); (try clear hi); have hcz16_0 : w15.cell? ⟨gb217, 0, none⟩ = some (.slice A1_0 l1_0.length c1_0) := (blk_cell BK217.out 0).trans rfl; have hcz16_1 : w15.cell? ⟨gb217, 1, none⟩ = some (.slice A1_1 l1_1.length c1_1) := (blk_cell BK217.out 1).trans rfl; have hfz16_0 := blk_frozen BK217.out 0; have hfz16_1 := blk_frozen BK217.out 1) | ((with_reducible refine gate_callee (f := 17) rfl ?_); refine goesL_ (some 24) rfl rfl Try.func17 (by kernel_rfl) rfl #[.agg #[.slice A1_0 l1_0.length c1_0, .slice A1_1 l1_1.length c1_1]] rfl (by (try simp only [List.map_toArray, List.map_cons, List.map_nil]); first | done | rfl | (simp only [List.length_drop, List.length_take]; rfl)) ?_; (with_reducible refine (laws_toArray.calls k _ _ l1_0 _ _ l1_1 t219 t222 _ ?side1 ?side2 ?side3 ?side4 A8.out).mono ?_); (case side1 => repeat (first | exact (Kd.C_below HR1_0.out HB.out) | (with_reducible refine Kd.C_alloc ?_ _) | (with_reducible refine Kd.C_drewN ?_ _) | (with_reducible refine Kd.C_drew ?_))); (case side2 => exact HC1_0.out); (case side3 => repeat (first | exact (Kd.C_below HR1_1.out HB.out) | (with_reducible refine Kd.C_alloc ?_ _) | (with_reducible refine Kd.C_drewN ?_ _) | (with_reducible refine Kd.C_drew ?_))); (case side4 => exact HC1_1.out); rintro e w17 ⟨v220, v223, rfl, ho0, ho1, hb⟩; refine ⟨_, rfl, ?_⟩; have n0_ := Aside0.mk (Kd.R_lower ho0 (below_size (by repeat (first | (with_reducible first | exact HB.out | apply below_alloc | apply pw_below_drewN | apply below_drew1 | refine below_set ?_ GE217.out) | exact HB.out)))); have n1_ := Aside0.mk (Kd.R_lower ho1 (below_size (by repeat (first | (with_reducible first | exact HB.out | apply below_alloc | apply pw_below_drewN | apply below_drew1 | refine below_set ?_ GE217.out) | exact HB.out)))); have n2_ := Aside0.mk (blk_below (g := gb217) (o := .cells #[.slice A1_0 l1_0.length c1_0, .slice A1_1 l1_1.length c1_1] 24 (0, 0)) (by (with_reducible repeat (first | refine blk_drewN ?_ _ | refine blk_drew ?_ | refine blk_alloc ?_ _)); exact BK217.out) hb); have n3_ := Aside0.mk (below_step (by repeat (first | (with_reducible first | exact HB.out | apply below_alloc | apply pw_below_drewN | apply below_drew1 | refine below_set ?_ GE217.out) | exact HB.out)) hb); clear BK217; clear HB; have HO221 := n0_; have HO224 := n1_; have BK217 := n2_; have HB := n3_; clear n0_ n1_ n2_ n3_; (try clear hb); (try clear hb2); (try clear hk); (try clear hi); (try clear ho0); (try clear ho1); obtain ⟨Ao18, co18, eo18⟩ := Kd.R_slice HO221.out; subst eo18; obtain ⟨Ao19, co19, eo19⟩ := Kd.R_slice HO224.out; subst eo19) | ((with_reducible refine gate_callee (f := 52) rfl ?_); refine goesL_ (some 25) rfl rfl Try.func52 (by kernel_rfl) rfl #[.int .i64 a0, .agg #[.slice Ao18 t219.length co18, .slice Ao19 t222.length co19]] rfl (by (try simp only [List.map_toArray, List.map_cons, List.map_nil]); first | done | rfl | (simp only [List.length_drop, List.length_take]; rfl)) ?_; (with_reducible refine (spec_EachOne.calls k a0 _ _ t219 _ _ t222 t225 t228 t231 _ ?side1 ?side2 ?side3 ?side4 A9.out).mono ?_); (case side1 => repeat (first | exact (Kd.R_reads' HO221.out).2.2 | (with_reducible refine Kd.C_alloc ?_ _) | (with_reducible refine Kd.C_drewN ?_ _) | (with_reducible refine Kd.C_drew ?_))); (case side2 => exact (Kd.R_reads' HO221.out).2.1); (case side3 => repeat (first | exact (Kd.R_reads' HO224.out).2.2 | (with_reducible refine Kd.C_alloc ?_ _) | (with_reducible refine Kd.C_drewN ?_ _) | (with_reducible refine Kd.C_drew ?_))); (case side4 => exact (Kd.R_reads' HO224.out).2.1); rintro e w20 ⟨v226, v229, rfl, ho0, ho1, hb⟩; refine ⟨_, rfl, ?_⟩; have n0_ := Aside0.mk (Kd.R_mono (Kd.R_told (Kd.R_told (Kd.R_old (by (with_reducible repeat (first | apply Kd.R_alloc | apply Kd.R_drewN | apply Kd.R_drew)); exact HO221.out) hb) (Kd.R_base ho0)) (Kd.R_base ho1)) (fun _ h_ => h_.1)); have n1_ := Aside0.mk (Kd.R_mono (Kd.R_told (Kd.R_told (Kd.R_old (by (with_reducible repeat (first | apply Kd.R_alloc | apply Kd.R_drewN | apply Kd.R_drew)); exact HO224.out) hb) (Kd.R_base ho0)) (Kd.R_base ho1)) (fun _ h_ => h_.1)); have n2_ := Aside0.mk (Kd.R_lower (Kd.R_new' (Kd.R_new' ho0 (Kd.R_lt (by (with_reducible repeat (first | apply Kd.R_alloc | apply Kd.R_drewN | apply Kd.R_drew)); exact HO221.out))) (Kd.R_lt (by (with_reducible repeat (first | apply Kd.R_alloc | apply Kd.R_drewN | apply Kd.R_drew)); exact HO224.out))) (below_size (by repeat (first | (with_reducible first | exact HB.out | apply below_alloc | apply pw_below_drewN | apply below_drew1 | refine below_set ?_ GE217.out) | exact HB.out)))); have n3_ := Aside0.mk (Kd.R_lower (Kd.R_new' (Kd.R_new' ho1 (Kd.R_lt (by (with_reducible repeat (first | apply Kd.R_alloc | apply Kd.R_drewN | apply Kd.R_drew)); exact HO221.out))) (Kd.R_lt (by (with_reducible repeat (first | apply Kd.R_alloc | apply Kd.R_drewN | apply Kd.R_drew)); exact HO224.out))) (below_size (by repeat (first | (with_reducible first | exact HB.out | apply below_alloc | apply pw_below_drewN | apply below_drew1 | refine below_set ?_ GE217.out) | exact HB.out)))); have n4_ := Aside0.mk (blk_below (g := gb217) (o := .cells #[.slice A1_0 l1_0.length c1_0, .slice A1_1 l1_1.length c1_1] 24 (0, 0)) (by (with_reducible repeat (first | refine blk_drewN ?_ _ | refine blk_drew ?_ | refine blk_alloc ?_ _)); exact BK217.out) hb); have n5_ := Aside0.mk (below_step (by repeat (first | (with_reducible first | exact HB.out | apply below_alloc | apply pw_below_drewN | apply below_drew1 | refine below_set ?_ GE217.out) | exact HB.out)) hb); clear HO221; clear HO224; clear BK217; clear HB; have HO221 := n0_; have HO224 := n1_; have HO227 := n2_; have HO230 := n3_; have BK217 := n4_; have HB := n5_; clear n0_ n1_ n2_ n3_ n4_ n5_; (try clear hb); (try clear hb2); (try clear hk); (try clear hi); (try clear ho0); (try clear ho1)) | ((with_reducible refine gate_dst (N := 6) rfl ?_); refine box_event ?hg (N := 6) ?hd (cs := #[.slice none 0 0, .slice none 0 0]) (t := 26) ?hr ?_; (case hd => rfl); (case hg => rfl); (case hr => first | (go_simp; done) | (go_simp; rfl)); intro gb232 hg w21 hbox hb; have n0_ := Aside0.mk (Kd.R_below (by (with_reducible repeat (first | apply Kd.R_alloc | apply Kd.R_drewN | apply Kd.R_drew)); exact HO221.out) hb); have n1_ := Aside0.mk (Kd.R_below (by (with_reducible repeat (first | apply Kd.R_alloc | apply Kd.R_drewN | apply Kd.R_drew)); exact HO224.out) hb); have n2_ := Aside0.mk (Kd.R_below (by (with_reducible repeat (first | apply Kd.R_alloc | apply Kd.R_drewN | apply Kd.R_drew)); exact HO227.out) hb); have n3_ := Aside0.mk (Kd.R_below (by (with_reducible repeat (first | apply Kd.R_alloc | apply Kd.R_drewN | apply Kd.R_drew)); exact HO230.out) hb); have n4_ := Aside0.mk (blk_below (g := gb217) (o := .cells #[.slice A1_0 l1_0.length c1_0, .slice A1_1 l1_1.length c1_1] 24 (0, 0)) (by (with_reducible repeat (first | refine blk_drewN ?_ _ | refine blk_drew ?_ | refine blk_alloc ?_ _)); exact BK217.out) hb); have n5_ := Aside0.mk (below_step (by repeat (first | (with_reducible first | exact HB.out | apply below_alloc | apply pw_below_drewN | apply below_drew1 | refine below_set ?_ GE217.out) | exact HB.out)) hb); have n6_ := Aside0.mk (hbox); have n7_ := Aside0.mk ((by rw [hg]; exact (below_size (by repeat (first | (with_reducible first | exact HB.out | apply below_alloc | apply pw_below_drewN | apply below_drew1 | refine below_set ?_ GE217.out) | exact HB.out))) : w.heap.size ≤ gb232)); have n8_ := Aside0.mk ((by rw [hg]; exact (below_size (by repeat (first | (with_reducible first | exact HB.out | apply below_alloc | apply pw_below_drewN | apply below_drew1 | refine below_set ?_ GE217.out) | exact HB.out))) : w.heap.size ≤ gb232)); have n9_ := Aside0.mk ((by rw [hg]; exact Nat.ne_of_lt (blk_lt (g := gb217) (o := .cells #[.slice A1_0 l1_0.length c1_0, .slice A1_1 l1_1.length c1_1] 24 (0, 0)) (by (with_reducible repeat (first | refine blk_drewN ?_ _ | refine blk_drew ?_ | refine blk_alloc ?_ _)); exact BK217.out)) : gb217 ≠ gb232)); have n10_ := Aside0.mk ((by rw [hg]; exact Nat.ne_of_gt (blk_lt (g := gb217) (o := .cells #[.slice A1_0 l1_0.length c1_0, .slice A1_1 l1_1.length c1_1] 24 (0, 0)) (by (with_reducible repeat (first | refine blk_drewN ?_ _ | refine blk_drew ?_ | refine blk_alloc ?_ _)); exact BK217.out)) : gb232 ≠ gb217)); clear HO221; clear HO224; clear HO227; clear HO230; clear BK217; clear HB; have HO221 := n0_; have HO224 := n1_; have HO227 := n2_; have HO230 := n3_; have BK217 := n4_; have HB := n5_; have BK232 := n6_; have GW232 := n7_; have GE232 := n8_; have NB217_232 := n9_; have NB232_217 := n10_; clear n0_ n1_ n2_ n3_ n4_ n5_ n6_ n7_ n8_ n9_ n10_; clear hb hbox hg; obtain ⟨Ao22, co22, eo22⟩ := Kd.R_slice HO227.out; subst eo22; have hnb23 := NB232_217.out; have hnc23 := NB217_232.out; have hcz24_0 : w21.cell? ⟨gb232, 0, none⟩ = some (.slice none 0 0) := (blk_cell BK232.out 0).trans rfl; have hcz24_1 : w21.cell? ⟨gb232, 1, none⟩ = some (.slice none 0 0) := (blk_cell BK232.out 1).trans rfl; have hfz24_0 := blk_frozen BK232.out 0; have hfz24_1 := blk_frozen BK232.out 1; obtain ⟨Ao25, co25, eo25⟩ := Kd.R_slice HO230.out; subst eo25; have hcz26_0 : w21.cell? ⟨gb217, 0, none⟩ = some (.slice A1_0 l1_0.length c1_0) := (blk_cell BK217.out 0).trans rfl; have hcz26_1 : w21.cell? ⟨gb217, 1, none⟩ = some (.slice A1_1 l1_1.length c1_1) := (blk_cell BK217.out 1).trans rfl; have hfz26_0 := blk_frozen BK217.out 0; have hfz26_1 := blk_frozen BK217.out 1) | ((with_reducible refine gate_callee (f := 17) rfl ?_); refine goesL_ (some 29) rfl rfl Try.func17 (by kernel_rfl) rfl #[.agg #[.slice A1_0 l1_0.length c1_0, .slice A1_1 l1_1.length c1_1]] rfl (by (try simp only [List.map_toArray, List.map_cons, List.map_nil]); first | done | rfl | (simp only [List.length_drop, List.length_take]; rfl)) ?_; (with_reducible refine (laws_toArray.calls k _ _ l1_0 _ _ l1_1 t233 t236 _ ?side1 ?side2 ?side3 ?side4 A10.out).mono ?_); (case side1 => exact Kd.C_below HR1_0.out (by repeat (first | (with_reducible first | exact HB.out | apply below_alloc | apply pw_below_drewN | apply below_drew1 | refine below_set ?_ GE217.out | refine below_set ?_ GE232.out) | exact HB.out))); (case side2 => exact HC1_0.out); (case side3 => exact Kd.C_below HR1_1.out (by repeat (first | (with_reducible first | exact HB.out | apply below_alloc | apply pw_below_drewN | apply below_drew1 | refine below_set ?_ GE217.out | refine below_set ?_ GE232.out) | exact HB.out))); (case side4 => exact HC1_1.out); rintro e w27 ⟨v234, v237, rfl, ho0, ho1, hb⟩; refine ⟨_, rfl, ?_⟩; have n0_ := Aside0.mk (Kd.R_mono (Kd.R_told (Kd.R_told (Kd.R_old (by (with_reducible repeat (first | apply Kd.R_alloc | apply Kd.R_drewN | apply Kd.R_drew)); exact (Kd.R_mono (Kd.R_far (p := ⟨gb232, 1, none⟩) (Kd.R_far (p := ⟨gb232, 0, none⟩) (Kd.R_types HO221.out BK232.out (by decide)) (fun _ hk => hk.2) (.slice Ao22 t225.length co22)) (fun _ hk => hk.2) (.slice Ao25 t228.length co25)) (fun _ h_ => h_.1))) hb) (Kd.R_base ho0)) (Kd.R_base ho1)) (fun _ h_ => h_.1)); have n1_ := Aside0.mk (Kd.R_mono (Kd.R_told (Kd.R_told (Kd.R_old (by (with_reducible repeat (first | apply Kd.R_alloc | apply Kd.R_drewN | apply Kd.R_drew)); exact (Kd.R_mono (Kd.R_far (p := ⟨gb232, 1, none⟩) (Kd.R_far (p := ⟨gb232, 0, none⟩) (Kd.R_types HO224.out BK232.out (by decide)) (fun _ hk => hk.2) (.slice Ao22 t225.length co22)) (fun _ hk => hk.2) (.slice Ao25 t228.length co25)) (fun _ h_ => h_.1))) hb) (Kd.R_base ho0)) (Kd.R_base ho1)) (fun _ h_ => h_.1)); have n2_ := Aside0.mk (Kd.R_mono (Kd.R_told (Kd.R_told (Kd.R_old (by (with_reducible repeat (first | apply Kd.R_alloc | apply Kd.R_drewN | apply Kd.R_drew)); exact (Kd.R_mono (Kd.R_far (p := ⟨gb232, 1, none⟩) (Kd.R_far (p := ⟨gb232, 0, none⟩) (Kd.R_types HO227.out BK232.out (by decide)) (fun _ hk => hk.2) (.slice Ao22 t225.length co22)) (fun _ hk => hk.2) (.slice Ao25 t228.length co25)) (fun _ h_ => h_.1))) hb) (Kd.R_base ho0)) (Kd.R_base ho1)) (fun _ h_ => h_.1)); have n3_ := Aside0.mk (Kd.R_mono (Kd.R_told (Kd.R_told (Kd.R_old (by (with_reducible repeat (first | apply Kd.R_alloc | apply Kd.R_drewN | apply Kd.R_drew)); exact (Kd.R_mono (Kd.R_far (p := ⟨gb232, 1, none⟩) (Kd.R_far (p := ⟨gb232, 0, none⟩) (Kd.R_types HO230.out BK232.out (by decide)) (fun _ hk => hk.2) (.slice Ao22 t225.length co22)) (fun _ hk => hk.2) (.slice Ao25 t228.length co25)) (fun _ h_ => h_.1))) hb) (Kd.R_base ho0)) (Kd.R_base ho1)) (fun _ h_ => h_.1)); have n4_ := Aside0.mk (Kd.R_lower (Kd.R_new' (Kd.R_new' (Kd.R_new' (Kd.R_new' ho0 (Kd.R_lt (by (with_reducible repeat (first | apply Kd.R_alloc | apply Kd.R_drewN | apply Kd.R_drew)); exact (Kd.R_mono (Kd.R_far (p := ⟨gb232, 1, none⟩) (Kd.R_far (p := ⟨gb232, 0, none⟩) (Kd.R_types HO221.out BK232.out (by decide)) (fun _ hk => hk.2) (.slice Ao22 t225.length co22)) (fun _ hk => hk.2) (.slice Ao25 t228.length co25)) (fun _ h_ => h_.1))))) (Kd.R_lt (by (with_reducible repeat (first | apply Kd.R_alloc | apply Kd.R_drewN | apply Kd.R_drew)); exact (Kd.R_mono (Kd.R_far (p := ⟨gb232, 1, none⟩) (Kd.R_far (p := ⟨gb232, 0, none⟩) (Kd.R_types HO224.out BK232.out (by decide)) (fun _ hk => hk.2) (.slice Ao22 t225.length co22)) (fun _ hk => hk.2) (.slice Ao25 t228.length co25)) (fun _ h_ => h_.1))))) (Kd.R_lt (by (with_reducible repeat (first | apply Kd.R_alloc | apply Kd.R_drewN | apply Kd.R_drew)); exact (Kd.R_mono (Kd.R_far (p := ⟨gb232, 1, none⟩) (Kd.R_far (p := ⟨gb232, 0, none⟩) (Kd.R_types HO227.out BK232.out (by decide)) (fun _ hk => hk.2) (.slice Ao22 t225.length co22)) (fun _ hk => hk.2) (.slice Ao25 t228.length co25)) (fun _ h_ => h_.1))))) (Kd.R_lt (by (with_reducible repeat (first | apply Kd.R_alloc | apply Kd.R_drewN | apply Kd.R_drew)); exact (Kd.R_mono (Kd.R_far (p := ⟨gb232, 1, none⟩) (Kd.R_far (p := ⟨gb232, 0, none⟩) (Kd.R_types HO230.out BK232.out (by decide)) (fun _ hk => hk.2) (.slice Ao22 t225.length co22)) (fun _ hk => hk.2) (.slice Ao25 t228.length co25)) (fun _ h_ => h_.1))))) (below_size (by repeat (first | (with_reducible first | exact HB.out | apply below_alloc | apply pw_below_drewN | apply below_drew1 | refine below_set ?_ GE217.out | refine below_set ?_ GE232.out) | exact HB.out)))); have n5_ := Aside0.mk (Kd.R_lower (Kd.R_new' (Kd.R_new' (Kd.R_new' (Kd.R_new' ho1 (Kd.R_lt (by (with_reducible repeat (first | apply Kd.R_alloc | apply Kd.R_drewN | apply Kd.R_drew)); exact (Kd.R_mono (Kd.R_far (p := ⟨gb232, 1, none⟩) (Kd.R_far (p := ⟨gb232, 0, none⟩) (Kd.R_types HO221.out BK232.out (by decide)) (fun _ hk => hk.2) (.slice Ao22 t225.length co22)) (fun _ hk => hk.2) (.slice Ao25 t228.length co25)) (fun _ h_ => h_.1))))) (Kd.R_lt (by (with_reducible repeat (first | apply Kd.R_alloc | apply Kd.R_drewN | apply Kd.R_drew)); exact (Kd.R_mono (Kd.R_far (p := ⟨gb232, 1, none⟩) (Kd.R_far (p := ⟨gb232, 0, none⟩) (Kd.R_types HO224.out BK232.out (by decide)) (fun _ hk => hk.2) (.slice Ao22 t225.length co22)) (fun _ hk => hk.2) (.slice Ao25 t228.length co25)) (fun _ h_ => h_.1))))) (Kd.R_lt (by (with_reducible repeat (first | apply Kd.R_alloc | apply Kd.R_drewN | apply Kd.R_drew)); exact (Kd.R_mono (Kd.R_far (p := ⟨gb232, 1, none⟩) (Kd.R_far (p := ⟨gb232, 0, none⟩) (Kd.R_types HO227.out BK232.out (by decide)) (fun _ hk => hk.2) (.slice Ao22 t225.length co22)) (fun _ hk => hk.2) (.slice Ao25 t228.length co25)) (fun _ h_ => h_.1))))) (Kd.R_lt (by (with_reducible repeat (first | apply Kd.R_alloc | apply Kd.R_drewN | apply Kd.R_drew)); exact (Kd.R_mono (Kd.R_far (p := ⟨gb232, 1, none⟩) (Kd.R_far (p := ⟨gb232, 0, none⟩) (Kd.R_types HO230.out BK232.out (by decide)) (fun _ hk => hk.2) (.slice Ao22 t225.length co22)) (fun _ hk => hk.2) (.slice Ao25 t228.length co25)) (fun _ h_ => h_.1))))) (below_size (by repeat (first | (with_reducible first | exact HB.out | apply below_alloc | apply pw_below_drewN | apply below_drew1 | refine below_set ?_ GE217.out | refine below_set ?_ GE232.out) | exact HB.out)))); have n6_ := Aside0.mk (blk_below (g := gb217) (o := .cells #[.slice A1_0 l1_0.length c1_0, .slice A1_1 l1_1.length c1_1] 24 (0, 0)) (by (with_reducible repeat (first | refine blk_drewN ?_ _ | refine blk_drew ?_ | refine blk_alloc ?_ _)); refine blk_far ?_ NB217_232.out _; (with_reducible repeat (first | refine blk_drewN ?_ _ | refine blk_drew ?_ | refine blk_alloc ?_ _)); refine blk_far ?_ NB217_232.out _; (with_reducible repeat (first | refine blk_drewN ?_ _ | refine blk_drew ?_ | refine blk_alloc ?_ _)); exact BK217.out) hb); have n7_ := Aside0.mk (blk_below (g := gb232) (o := .cells #[.slice Ao22 t225.length co22, .slice Ao25 t228.length co25] 26 (0, 0)) (by (with_reducible repeat (first | refine blk_drewN ?_ _ | refine blk_drew ?_ | refine blk_alloc ?_ _)); refine blk_put (cs := #[.slice Ao22 t225.length co22, .slice none 0 0]) ?_ 1 _ rfl; (with_reducible repeat (first | refine blk_drewN ?_ _ | refine blk_drew ?_ | refine blk_alloc ?_ _)); refine blk_put (cs := #[.slice none 0 0, .slice none 0 0]) ?_ 0 _ rfl; (with_reducible repeat (first | refine blk_drewN ?_ _ | refine blk_drew ?_ | refine blk_alloc ?_ _)); exact BK232.out) hb); have n8_ := Aside0.mk (below_step (by repeat (first | (with_reducible first | exact HB.out | apply below_alloc | apply pw_below_drewN | apply below_drew1 | refine below_set ?_ GE217.out | refine below_set ?_ GE232.out) | exact HB.out)) hb); clear HO221; clear HO224; clear HO227; clear HO230; clear BK217; clear BK232; clear HB; have HO221 := n0_; have HO224 := n1_; have HO227 := n2_; have HO230 := n3_; have HO235 := n4_; have HO238 := n5_; have BK217 := n6_; have BK232 := n7_; have HB := n8_; clear n0_ n1_ n2_ n3_ n4_ n5_ n6_ n7_ n8_; (try clear hb); (try clear hb2); (try clear hk); (try clear hi); (try clear ho0); (try clear ho1)) | ((with_reducible refine gate_dst (N := 8) rfl ?_); refine box_event ?hg (N := 8) ?hd (cs := #[.slice none 0 0, .slice none 0 0]) (t := 26) ?hr ?_; (case hd => rfl); (case hg => rfl); (case hr => first | (go_simp; done) | (go_simp; rfl)); intro gb239 hg w28 hbox hb; have n0_ := Aside0.mk (Kd.R_below (by (with_reducible repeat (first | apply Kd.R_alloc | apply Kd.R_drewN | apply Kd.R_drew)); exact HO221.out) hb); have n1_ := Aside0.mk (Kd.R_below (by (with_reducible repeat (first | apply Kd.R_alloc | apply Kd.R_drewN | apply Kd.R_drew)); exact HO224.out) hb); have n2_ := Aside0.mk (Kd.R_below (by (with_reducible repeat (first | apply Kd.R_alloc | apply Kd.R_drewN | apply Kd.R_drew)); exact HO227.out) hb); have n3_ := Aside0.mk (Kd.R_below (by (with_reducible repeat (first | apply Kd.R_alloc | apply Kd.R_drewN | apply Kd.R_drew)); exact HO230.out) hb); have n4_ := Aside0.mk (Kd.R_below (by (with_reducible repeat (first | apply Kd.R_alloc | apply Kd.R_drewN | apply Kd.R_drew)); exact HO235.out) hb); have n5_ := Aside0.mk (Kd.R_below (by (with_reducible repeat (first | apply Kd.R_alloc | apply Kd.R_drewN | apply Kd.R_drew)); exact HO238.out) hb); have n6_ := Aside0.mk (blk_below (g := gb217) (o := .cells #[.slice A1_0 l1_0.length c1_0, .slice A1_1 l1_1.length c1_1] 24 (0, 0)) (by (with_reducible repeat (first | refine blk_drewN ?_ _ | refine blk_drew ?_ | refine blk_alloc ?_ _)); exact BK217.out) hb); have n7_ := Aside0.mk (blk_below (g := gb232) (o := .cells #[.slice Ao22 t225.length co22, .slice Ao25 t228.length co25] 26 (0, 0)) (by (with_reducible repeat (first | refine blk_drewN ?_ _ | refine blk_drew ?_ | refine blk_alloc ?_ _)); exact BK232.out) hb); have n8_ := Aside0.mk (below_step (by repeat (first | (with_reducible first | exact HB.out | apply below_alloc | apply pw_below_drewN | apply below_drew1 | refine below_set ?_ GE217.out | refine below_set ?_ GE232.out) | exact HB.out)) hb); have n9_ := Aside0.mk (hbox); have n10_ := Aside0.mk ((by rw [hg]; exact (below_size (by repeat (first | (with_reducible first | exact HB.out | apply below_alloc | apply pw_below_drewN | apply below_drew1 | refine below_set ?_ GE217.out | refine below_set ?_ GE232.out) | exact HB.out))) : w.heap.size ≤ gb239)); have n11_ := Aside0.mk ((by rw [hg]; exact (below_size (by repeat (first | (with_reducible first | exact HB.out | apply below_alloc | apply pw_below_drewN | apply below_drew1 | refine below_set ?_ GE217.out | refine below_set ?_ GE232.out) | exact HB.out))) : w.heap.size ≤ gb239)); have n12_ := Aside0.mk ((by rw [hg]; exact Nat.ne_of_lt (blk_lt (g := gb217) (o := .cells #[.slice A1_0 l1_0.length c1_0, .slice A1_1 l1_1.length c1_1] 24 (0, 0)) (by (with_reducible repeat (first | refine blk_drewN ?_ _ | refine blk_drew ?_ | refine blk_alloc ?_ _)); exact BK217.out)) : gb217 ≠ gb239)); have n13_ := Aside0.mk ((by rw [hg]; exact Nat.ne_of_gt (blk_lt (g := gb217) (o := .cells #[.slice A1_0 l1_0.length c1_0, .slice A1_1 l1_1.length c1_1] 24 (0, 0)) (by (with_reducible repeat (first | refine blk_drewN ?_ _ | refine blk_drew ?_ | refine blk_alloc ?_ _)); exact BK217.out)) : gb239 ≠ gb217)); have n14_ := Aside0.mk ((by rw [hg]; exact Nat.ne_of_lt (blk_lt (g := gb232) (o := .cells #[.slice Ao22 t225.length co22, .slice Ao25 t228.length co25] 26 (0, 0)) (by (with_reducible repeat (first | refine blk_drewN ?_ _ | refine blk_drew ?_ | refine blk_alloc ?_ _)); exact BK232.out)) : gb232 ≠ gb239)); have n15_ := Aside0.mk ((by rw [hg]; exact Nat.ne_of_gt (blk_lt (g := gb232) (o := .cells #[.slice Ao22 t225.length co22, .slice Ao25 t228.length co25] 26 (0, 0)) (by (with_reducible repeat (first | refine blk_drewN ?_ _ | refine blk_drew ?_ | refine blk_alloc ?_ _)); exact BK232.out)) : gb239 ≠ gb232)); clear HO221; clear HO224; clear HO227; clear HO230; clear HO235; clear HO238; clear BK217; clear BK232; clear HB; have HO221 := n0_; have HO224 := n1_; have HO227 := n2_; have HO230 := n3_; have HO235 := n4_; have HO238 := n5_; have BK217 := n6_; have BK232 := n7_; have HB := n8_; have BK239 := n9_; have GW239 := n10_; have GE239 := n11_; have NB217_239 := n12_; have NB239_217 := n13_; have NB232_239 := n14_; have NB239_232 := n15_; clear n0_ n1_ n2_ n3_ n4_ n5_ n6_ n7_ n8_ n9_ n10_ n11_ n12_ n13_ n14_ n15_; clear hb hbox hg; obtain ⟨Ao29, co29, eo29⟩ := Kd.R_slice HO235.out; subst eo29; have hnb30 := NB239_217.out; have hnc30 := NB217_239.out; have hnb31 := NB239_232.out; have hnc31 := NB232_239.out; have hcz32_0 : w28.cell? ⟨gb239, 0, none⟩ = some (.slice none 0 0) := (blk_cell BK239.out 0).trans rfl; have hcz32_1 : w28.cell? ⟨gb239, 1, none⟩ = some (.slice none 0 0) := (blk_cell BK239.out 1).trans rfl; have hfz32_0 := blk_frozen BK239.out 0; have hfz32_1 := blk_frozen BK239.out 1; obtain ⟨Ao33, co33, eo33⟩ := Kd.R_slice HO238.out; subst eo33) | ((with_reducible refine gate_callee (f := 53) rfl ?_); refine goesL_ (some 33) rfl rfl Try.func53 (by kernel_rfl) rfl #[.int .i64 a0, .agg #[.slice Ao29 t233.length co29, .slice Ao33 t236.length co33]] rfl (by (try simp only [List.map_toArray, List.map_cons, List.map_nil]); first | done | rfl | (simp only [List.length_drop, List.length_take]; rfl)) ?_; (with_reducible refine (impl_EachOne.calls k a0 _ _ t233 _ _ t236 t240 t243 t246 _ ?side1 ?side2 ?side3 ?side4 A11.out).mono ?_); (case side1 => refine (Kd.R_reads' (e := 3) (base := w.heap.size) (ok := fun k_ => ((((some k_ ≠ (.slice Ao33 t236.length co33 : Value).ownBlock ∧ some k_ ≠ (.slice Ao18 t219.length co18 : Value).ownBlock) ∧ some k_ ≠ (.slice Ao19 t222.length co19 : Value).ownBlock) ∧ some k_ ≠ (.slice Ao22 t225.length co22 : Value).ownBlock) ∧ some k_ ≠ (.slice Ao25 t228.length co25 : Value).ownBlock)) (n := t233.length) (c := co29) ?_).2.2; exact (by (with_reducible repeat (first | apply Kd.R_alloc | apply Kd.R_drewN | apply Kd.R_drew)); exact (Kd.R_mono (Kd.R_far (p := ⟨gb239, 1, none⟩) (Kd.R_far (p := ⟨gb239, 0, none⟩) (Kd.R_types HO235.out BK239.out (by decide)) (fun _ hk => hk.2) (.slice Ao29 t233.length co29)) (fun _ hk => hk.2) (.slice Ao33 t236.length co33)) (fun _ h_ => h_.1)))); (case side2 => exact (Kd.R_reads' HO235.out).2.1); (case side3 => refine (Kd.R_reads' (e := 3) (base := w.heap.size) (ok := fun k_ => ((((some k_ ≠ (.slice Ao29 t233.length co29 : Value).ownBlock ∧ some k_ ≠ (.slice Ao18 t219.length co18 : Value).ownBlock) ∧ some k_ ≠ (.slice Ao19 t222.length co19 : Value).ownBlock) ∧ some k_ ≠ (.slice Ao22 t225.length co22 : Value).ownBlock) ∧ some k_ ≠ (.slice Ao25 t228.length co25 : Value).ownBlock)) (n := t236.length) (c := co33) ?_).2.2; exact (by (with_reducible repeat (first | apply Kd.R_alloc | apply Kd.R_drewN | apply Kd.R_drew)); exact (Kd.R_mono (Kd.R_far (p := ⟨gb239, 1, none⟩) (Kd.R_far (p := ⟨gb239, 0, none⟩) (Kd.R_types HO238.out BK239.out (by decide)) (fun _ hk => hk.2) (.slice Ao29 t233.length co29)) (fun _ hk => hk.2) (.slice Ao33 t236.length co33)) (fun _ h_ => h_.1)))); (case side4 => exact (Kd.R_reads' HO238.out).2.1); rintro e w34 ⟨v241, v244, rfl, ho0, ho1, hb⟩; refine ⟨_, rfl, ?_⟩; have n0_ := Aside0.mk (Kd.R_mono (Kd.R_told (Kd.R_told (Kd.R_old (by (with_reducible repeat (first | apply Kd.R_alloc | apply Kd.R_drewN | apply Kd.R_drew)); exact (Kd.R_mono (Kd.R_far (p := ⟨gb239, 1, none⟩) (Kd.R_far (p := ⟨gb239, 0, none⟩) (Kd.R_types HO221.out BK239.out (by decide)) (fun _ hk => hk.2) (.slice Ao29 t233.length co29)) (fun _ hk => hk.2) (.slice Ao33 t236.length co33)) (fun _ h_ => h_.1))) hb) (Kd.R_base ho0)) (Kd.R_base ho1)) (fun _ h_ => h_.1)); have n1_ := Aside0.mk (Kd.R_mono (Kd.R_told (Kd.R_told (Kd.R_old (by (with_reducible repeat (first | apply Kd.R_alloc | apply Kd.R_drewN | apply Kd.R_drew)); exact (Kd.R_mono (Kd.R_far (p := ⟨gb239, 1, none⟩) (Kd.R_far (p := ⟨gb239, 0, none⟩) (Kd.R_types HO224.out BK239.out (by decide)) (fun _ hk => hk.2) (.slice Ao29 t233.length co29)) (fun _ hk => hk.2) (.slice Ao33 t236.length co33)) (fun _ h_ => h_.1))) hb) (Kd.R_base ho0)) (Kd.R_base ho1)) (fun _ h_ => h_.1)); have n2_ := Aside0.mk (Kd.R_mono (Kd.R_told (Kd.R_told (Kd.R_old (by (with_reducible repeat (first | apply Kd.R_alloc | apply Kd.R_drewN | apply Kd.R_drew)); exact (Kd.R_mono (Kd.R_far (p := ⟨gb239, 1, none⟩) (Kd.R_far (p := ⟨gb239, 0, none⟩) (Kd.R_types HO227.out BK239.out (by decide)) (fun _ hk => hk.2) (.slice Ao29 t233.length co29)) (fun _ hk => hk.2) (.slice Ao33 t236.length co33)) (fun _ h_ => h_.1))) hb) (Kd.R_base ho0)) (Kd.R_base ho1)) (fun _ h_ => h_.1)); have n3_ := Aside0.mk (Kd.R_mono (Kd.R_told (Kd.R_told (Kd.R_old (by (with_reducible repeat (first | apply Kd.R_alloc | apply Kd.R_drewN | apply Kd.R_drew)); exact (Kd.R_mono (Kd.R_far (p := ⟨gb239, 1, none⟩) (Kd.R_far (p := ⟨gb239, 0, none⟩) (Kd.R_types HO230.out BK239.out (by decide)) (fun _ hk => hk.2) (.slice Ao29 t233.length co29)) (fun _ hk => hk.2) (.slice Ao33 t236.length co33)) (fun _ h_ => h_.1))) hb) (Kd.R_base ho0)) (Kd.R_base ho1)) (fun _ h_ => h_.1)); have n4_ := Aside0.mk (Kd.R_mono (Kd.R_told (Kd.R_told (Kd.R_old (by (with_reducible repeat (first | apply Kd.R_alloc | apply Kd.R_drewN | apply Kd.R_drew)); exact (Kd.R_mono (Kd.R_far (p := ⟨gb239, 1, none⟩) (Kd.R_far (p := ⟨gb239, 0, none⟩) (Kd.R_types HO235.out BK239.out (by decide)) (fun _ hk => hk.2) (.slice Ao29 t233.length co29)) (fun _ hk => hk.2) (.slice Ao33 t236.length co33)) (fun _ h_ => h_.1))) hb) (Kd.R_base ho0)) (Kd.R_base ho1)) (fun _ h_ => h_.1)); have n5_ := Aside0.mk (Kd.R_mono (Kd.R_told (Kd.R_told (Kd.R_old (by (with_reducible repeat (first | apply Kd.R_alloc | apply Kd.R_drewN | apply Kd.R_drew)); exact (Kd.R_mono (Kd.R_far (p := ⟨gb239, 1, none⟩) (Kd.R_far (p := ⟨gb239, 0, none⟩) (Kd.R_types HO238.out BK239.out (by decide)) (fun _ hk => hk.2) (.slice Ao29 t233.length co29)) (fun _ hk => hk.2) (.slice Ao33 t236.length co33)) (fun _ h_ => h_.1))) hb) (Kd.R_base ho0)) (Kd.R_base ho1)) (fun _ h_ => h_.1)); have n6_ := Aside0.mk (Kd.R_lower (Kd.R_new' (Kd.R_new' (Kd.R_new' (Kd.R_new' (Kd.R_new' (Kd.R_new' ho0 (Kd.R_lt (by (with_reducible repeat (first | apply Kd.R_alloc | apply Kd.R_drewN | apply Kd.R_drew)); exact (Kd.R_mono (Kd.R_far (p := ⟨gb239, 1, none⟩) (Kd.R_far (p := ⟨gb239, 0, none⟩) (Kd.R_types HO221.out BK239.out (by decide)) (fun _ hk => hk.2) (.slice Ao29 t233.length co29)) (fun _ hk => hk.2) (.slice Ao33 t236.length co33)) (fun _ h_ => h_.1))))) (Kd.R_lt (by (with_reducible repeat (first | apply Kd.R_alloc | apply Kd.R_drewN | apply Kd.R_drew)); exact (Kd.R_mono (Kd.R_far (p := ⟨gb239, 1, none⟩) (Kd.R_far (p := ⟨gb239, 0, none⟩) (Kd.R_types HO224.out BK239.out (by decide)) (fun _ hk => hk.2) (.slice Ao29 t233.length co29)) (fun _ hk => hk.2) (.slice Ao33 t236.length co33)) (fun _ h_ => h_.1))))) (Kd.R_lt (by (with_reducible repeat (first | apply Kd.R_alloc | apply Kd.R_drewN | apply Kd.R_drew)); exact (Kd.R_mono (Kd.R_far (p := ⟨gb239, 1, none⟩) (Kd.R_far (p := ⟨gb239, 0, none⟩) (Kd.R_types HO227.out BK239.out (by decide)) (fun _ hk => hk.2) (.slice Ao29 t233.length co29)) (fun _ hk => hk.2) (.slice Ao33 t236.length co33)) (fun _ h_ => h_.1))))) (Kd.R_lt (by (with_reducible repeat (first | apply Kd.R_alloc | apply Kd.R_drewN | apply Kd.R_drew)); exact (Kd.R_mono (Kd.R_far (p := ⟨gb239, 1, none⟩) (Kd.R_far (p := ⟨gb239, 0, none⟩) (Kd.R_types HO230.out BK239.out (by decide)) (fun _ hk => hk.2) (.slice Ao29 t233.length co29)) (fun _ hk => hk.2) (.slice Ao33 t236.length co33)) (fun _ h_ => h_.1))))) (Kd.R_lt (by (with_reducible repeat (first | apply Kd.R_alloc | apply Kd.R_drewN | apply Kd.R_drew)); exact (Kd.R_mono (Kd.R_far (p := ⟨gb239, 1, none⟩) (Kd.R_far (p := ⟨gb239, 0, none⟩) (Kd.R_types HO235.out BK239.out (by decide)) (fun _ hk => hk.2) (.slice Ao29 t233.length co29)) (fun _ hk => hk.2) (.slice Ao33 t236.length co33)) (fun _ h_ => h_.1))))) (Kd.R_lt (by (with_reducible repeat (first | apply Kd.R_alloc | apply Kd.R_drewN | apply Kd.R_drew)); exact (Kd.R_mono (Kd.R_far (p := ⟨gb239, 1, none⟩) (Kd.R_far (p := ⟨gb239, 0, none⟩) (Kd.R_types HO238.out BK239.out (by decide)) (fun _ hk => hk.2) (.slice Ao29 t233.length co29)) (fun _ hk => hk.2) (.slice Ao33 t236.length co33)) (fun _ h_ => h_.1))))) (below_size (by repeat (first | (with_reducible first | exact HB.out | apply below_alloc | apply pw_below_drewN | apply below_drew1 | refine below_set ?_ GE217.out | refine below_set ?_ GE232.out | refine below_set ?_ GE239.out) | exact HB.out)))); have n7_ := Aside0.mk (Kd.R_lower (Kd.R_new' (Kd.R_new' (Kd.R_new' (Kd.R_new' (Kd.R_new' (Kd.R_new' ho1 (Kd.R_lt (by (with_reducible repeat (first | apply Kd.R_alloc | apply Kd.R_drewN | apply Kd.R_drew)); exact (Kd.R_mono (Kd.R_far (p := ⟨gb239, 1, none⟩) (Kd.R_far (p := ⟨gb239, 0, none⟩) (Kd.R_types HO221.out BK239.out (by decide)) (fun _ hk => hk.2) (.slice Ao29 t233.length co29)) (fun _ hk => hk.2) (.slice Ao33 t236.length co33)) (fun _ h_ => h_.1))))) (Kd.R_lt (by (with_reducible repeat (first | apply Kd.R_alloc | apply Kd.R_drewN | apply Kd.R_drew)); exact (Kd.R_mono (Kd.R_far (p := ⟨gb239, 1, none⟩) (Kd.R_far (p := ⟨gb239, 0, none⟩) (Kd.R_types HO224.out BK239.out (by decide)) (fun _ hk => hk.2) (.slice Ao29 t233.length co29)) (fun _ hk => hk.2) (.slice Ao33 t236.length co33)) (fun _ h_ => h_.1))))) (Kd.R_lt (by (with_reducible repeat (first | apply Kd.R_alloc | apply Kd.R_drewN | apply Kd.R_drew)); exact (Kd.R_mono (Kd.R_far (p := ⟨gb239, 1, none⟩) (Kd.R_far (p := ⟨gb239, 0, none⟩) (Kd.R_types HO227.out BK239.out (by decide)) (fun _ hk => hk.2) (.slice Ao29 t233.length co29)) (fun _ hk => hk.2) (.slice Ao33 t236.length co33)) (fun _ h_ => h_.1))))) (Kd.R_lt (by (with_reducible repeat (first | apply Kd.R_alloc | apply Kd.R_drewN | apply Kd.R_drew)); exact (Kd.R_mono (Kd.R_far (p := ⟨gb239, 1, none⟩) (Kd.R_far (p := ⟨gb239, 0, none⟩) (Kd.R_types HO230.out BK239.out (by decide)) (fun _ hk => hk.2) (.slice Ao29 t233.length co29)) (fun _ hk => hk.2) (.slice Ao33 t236.length co33)) (fun _ h_ => h_.1))))) (Kd.R_lt (by (with_reducible repeat (first | apply Kd.R_alloc | apply Kd.R_drewN | apply Kd.R_drew)); exact (Kd.R_mono (Kd.R_far (p := ⟨gb239, 1, none⟩) (Kd.R_far (p := ⟨gb239, 0, none⟩) (Kd.R_types HO235.out BK239.out (by decide)) (fun _ hk => hk.2) (.slice Ao29 t233.length co29)) (fun _ hk => hk.2) (.slice Ao33 t236.length co33)) (fun _ h_ => h_.1))))) (Kd.R_lt (by (with_reducible repeat (first | apply Kd.R_alloc | apply Kd.R_drewN | apply Kd.R_drew)); exact (Kd.R_mono (Kd.R_far (p := ⟨gb239, 1, none⟩) (Kd.R_far (p := ⟨gb239, 0, none⟩) (Kd.R_types HO238.out BK239.out (by decide)) (fun _ hk => hk.2) (.slice Ao29 t233.length co29)) (fun _ hk => hk.2) (.slice Ao33 t236.length co33)) (fun _ h_ => h_.1))))) (below_size (by repeat (first | (with_reducible first | exact HB.out | apply below_alloc | apply pw_below_drewN | apply below_drew1 | refine below_set ?_ GE217.out | refine below_set ?_ GE232.out | refine below_set ?_ GE239.out) | exact HB.out)))); have n8_ := Aside0.mk (blk_below (g := gb217) (o := .cells #[.slice A1_0 l1_0.length c1_0, .slice A1_1 l1_1.length c1_1] 24 (0, 0)) (by (with_reducible repeat (first | refine blk_drewN ?_ _ | refine blk_drew ?_ | refine blk_alloc ?_ _)); refine blk_far ?_ NB217_239.out _; (with_reducible repeat (first | refine blk_drewN ?_ _ | refine blk_drew ?_ | refine blk_alloc ?_ _)); refine blk_far ?_ NB217_239.out _; (with_reducible repeat (first | refine blk_drewN ?_ _ | refine blk_drew ?_ | refine blk_alloc ?_ _)); exact BK217.out) hb); have n9_ := Aside0.mk (blk_below (g := gb232) (o := .cells #[.slice Ao22 t225.length co22, .slice Ao25 t228.length co25] 26 (0, 0)) (by (with_reducible repeat (first | refine blk_drewN ?_ _ | refine blk_drew ?_ | refine blk_alloc ?_ _)); refine blk_far ?_ NB232_239.out _; (with_reducible repeat (first | refine blk_drewN ?_ _ | refine blk_drew ?_ | refine blk_alloc ?_ _)); refine blk_far ?_ NB232_239.out _; (with_reducible repeat (first | refine blk_drewN ?_ _ | refine blk_drew ?_ | refine blk_alloc ?_ _)); exact BK232.out) hb); have n10_ := Aside0.mk (blk_below (g := gb239) (o := .cells #[.slice Ao29 t233.length co29, .slice Ao33 t236.length co33] 26 (0, 0)) (by (with_reducible repeat (first | refine blk_drewN ?_ _ | refine blk_drew ?_ | refine blk_alloc ?_ _)); refine blk_put (cs := #[.slice Ao29 t233.length co29, .slice none 0 0]) ?_ 1 _ rfl; (with_reducible repeat (first | refine blk_drewN ?_ _ | refine blk_drew ?_ | refine blk_alloc ?_ _)); refine blk_put (cs := #[.slice none 0 0, .slice none 0 0]) ?_ 0 _ rfl; (with_reducible repeat (first | refine blk_drewN ?_ _ | refine blk_drew ?_ | refine blk_alloc ?_ _)); exact BK239.out) hb); have n11_ := Aside0.mk (below_step (by repeat (first | (with_reducible first | exact HB.out | apply below_alloc | apply pw_below_drewN | apply below_drew1 | refine below_set ?_ GE217.out | refine below_set ?_ GE232.out | refine below_set ?_ GE239.out) | exact HB.out)) hb); clear HO221; clear HO224; clear HO227; clear HO230; clear HO235; clear HO238; clear BK217; clear BK232; clear BK239; clear HB; have HO221 := n0_; have HO224 := n1_; have HO227 := n2_; have HO230 := n3_; have HO235 := n4_; have HO238 := n5_; have HO242 := n6_; have HO245 := n7_; have BK217 := n8_; have BK232 := n9_; have BK239 := n10_; have HB := n11_; clear n0_ n1_ n2_ n3_ n4_ n5_ n6_ n7_ n8_ n9_ n10_ n11_; (try clear hb); (try clear hb2); (try clear hk); (try clear hi); (try clear ho0); (try clear ho1)) | ((with_reducible refine gate_dst (N := 9) rfl ?_); refine box_event ?hg (N := 9) ?hd (cs := #[.slice none 0 0, .slice none 0 0]) (t := 26) ?hr ?_; (case hd => rfl); (case hg => rfl); (case hr => first | (go_simp; done) | (go_simp; rfl)); intro gb247 hg w35 hbox hb; have n0_ := Aside0.mk (Kd.R_below (by (with_reducible repeat (first | apply Kd.R_alloc | apply Kd.R_drewN | apply Kd.R_drew)); exact HO221.out) hb); have n1_ := Aside0.mk (Kd.R_below (by (with_reducible repeat (first | apply Kd.R_alloc | apply Kd.R_drewN | apply Kd.R_drew)); exact HO224.out) hb); have n2_ := Aside0.mk (Kd.R_below (by (with_reducible repeat (first | apply Kd.R_alloc | apply Kd.R_drewN | apply Kd.R_drew)); exact HO227.out) hb); have n3_ := Aside0.mk (Kd.R_below (by (with_reducible repeat (first | apply Kd.R_alloc | apply Kd.R_drewN | apply Kd.R_drew)); exact HO230.out) hb); have n4_ := Aside0.mk (Kd.R_below (by (with_reducible repeat (first | apply Kd.R_alloc | apply Kd.R_drewN | apply Kd.R_drew)); exact HO235.out) hb); have n5_ := Aside0.mk (Kd.R_below (by (with_reducible repeat (first | apply Kd.R_alloc | apply Kd.R_drewN | apply Kd.R_drew)); exact HO238.out) hb); have n6_ := Aside0.mk (Kd.R_below (by (with_reducible repeat (first | apply Kd.R_alloc | apply Kd.R_drewN | apply Kd.R_drew)); exact HO242.out) hb); have n7_ := Aside0.mk (Kd.R_below (by (with_reducible repeat (first | apply Kd.R_alloc | apply Kd.R_drewN | apply Kd.R_drew)); exact HO245.out) hb); have n8_ := Aside0.mk (blk_below (g := gb217) (o := .cells #[.slice A1_0 l1_0.length c1_0, .slice A1_1 l1_1.length c1_1] 24 (0, 0)) (by (with_reducible repeat (first | refine blk_drewN ?_ _ | refine blk_drew ?_ | refine blk_alloc ?_ _)); exact BK217.out) hb); have n9_ := Aside0.mk (blk_below (g := gb232) (o := .cells #[.slice Ao22 t225.length co22, .slice Ao25 t228.length co25] 26 (0, 0)) (by (with_reducible repeat (first | refine blk_drewN ?_ _ | refine blk_drew ?_ | refine blk_alloc ?_ _)); exact BK232.out) hb); have n10_ := Aside0.mk (blk_below (g := gb239) (o := .cells #[.slice Ao29 t233.length co29, .slice Ao33 t236.length co33] 26 (0, 0)) (by (with_reducible repeat (first | refine blk_drewN ?_ _ | refine blk_drew ?_ | refine blk_alloc ?_ _)); exact BK239.out) hb); have n11_ := Aside0.mk (below_step (by repeat (first | (with_reducible first | exact HB.out | apply below_alloc | apply pw_below_drewN | apply below_drew1 | refine below_set ?_ GE217.out | refine below_set ?_ GE232.out | refine below_set ?_ GE239.out) | exact HB.out)) hb); have n12_ := Aside0.mk (hbox); have n13_ := Aside0.mk ((by rw [hg]; exact (below_size (by repeat (first | (with_reducible first | exact HB.out | apply below_alloc | apply pw_below_drewN | apply below_drew1 | refine below_set ?_ GE217.out | refine below_set ?_ GE232.out | refine below_set ?_ GE239.out) | exact HB.out))) : w.heap.size ≤ gb247)); have n14_ := Aside0.mk ((by rw [hg]; exact (below_size (by repeat (first | (with_reducible first | exact HB.out | apply below_alloc | apply pw_below_drewN | apply below_drew1 | refine below_set ?_ GE217.out | refine below_set ?_ GE232.out | refine below_set ?_ GE239.out) | exact HB.out))) : w.heap.size ≤ gb247)); have n15_ := Aside0.mk ((by rw [hg]; exact Nat.ne_of_lt (blk_lt (g := gb217) (o := .cells #[.slice A1_0 l1_0.length c1_0, .slice A1_1 l1_1.length c1_1] 24 (0, 0)) (by (with_reducible repeat (first | refine blk_drewN ?_ _ | refine blk_drew ?_ | refine blk_alloc ?_ _)); exact BK217.out)) : gb217 ≠ gb247)); have n16_ := Aside0.mk ((by rw [hg]; exact Nat.ne_of_gt (blk_lt (g := gb217) (o := .cells #[.slice A1_0 l1_0.length c1_0, .slice A1_1 l1_1.length c1_1] 24 (0, 0)) (by (with_reducible repeat (first | refine blk_drewN ?_ _ | refine blk_drew ?_ | refine blk_alloc ?_ _)); exact BK217.out)) : gb247 ≠ gb217)); have n17_ := Aside0.mk ((by rw [hg]; exact Nat.ne_of_lt (blk_lt (g := gb232) (o := .cells #[.slice Ao22 t225.length co22, .slice Ao25 t228.length co25] 26 (0, 0)) (by (with_reducible repeat (first | refine blk_drewN ?_ _ | refine blk_drew ?_ | refine blk_alloc ?_ _)); exact BK232.out)) : gb232 ≠ gb247)); have n18_ := Aside0.mk ((by rw [hg]; exact Nat.ne_of_gt (blk_lt (g := gb232) (o := .cells #[.slice Ao22 t225.length co22, .slice Ao25 t228.length co25] 26 (0, 0)) (by (with_reducible repeat (first | refine blk_drewN ?_ _ | refine blk_drew ?_ | refine blk_alloc ?_ _)); exact BK232.out)) : gb247 ≠ gb232)); have n19_ := Aside0.mk ((by rw [hg]; exact Nat.ne_of_lt (blk_lt (g := gb239) (o := .cells #[.slice Ao29 t233.length co29, .slice Ao33 t236.length co33] 26 (0, 0)) (by (with_reducible repeat (first | refine blk_drewN ?_ _ | refine blk_drew ?_ | refine blk_alloc ?_ _)); exact BK239.out)) : gb239 ≠ gb247)); have n20_ := Aside0.mk ((by rw [hg]; exact Nat.ne_of_gt (blk_lt (g := gb239) (o := .cells #[.slice Ao29 t233.length co29, .slice Ao33 t236.length co33] 26 (0, 0)) (by (with_reducible repeat (first | refine blk_drewN ?_ _ | refine blk_drew ?_ | refine blk_alloc ?_ _)); exact BK239.out)) : gb247 ≠ gb239)); clear HO221; clear HO224; clear HO227; clear HO230; clear HO235; clear HO238; clear HO242; clear HO245; clear BK217; clear BK232; clear BK239; clear HB; have HO221 := n0_; have HO224 := n1_; have HO227 := n2_; have HO230 := n3_; have HO235 := n4_; have HO238 := n5_; have HO242 := n6_; have HO245 := n7_; have BK217 := n8_; have BK232 := n9_; have BK239 := n10_; have HB := n11_; have BK247 := n12_; have GW247 := n13_; have GE247 := n14_; have NB217_247 := n15_; have NB247_217 := n16_; have NB232_247 := n17_; have NB247_232 := n18_; have NB239_247 := n19_; have NB247_239 := n20_; clear n0_ n1_ n2_ n3_ n4_ n5_ n6_ n7_ n8_ n9_ n10_ n11_ n12_ n13_ n14_ n15_ n16_ n17_ n18_ n19_ n20_; clear hb hbox hg; obtain ⟨Ao36, co36, eo36⟩ := Kd.R_slice HO242.out; subst eo36; have hnb37 := NB247_217.out; have hnc37 := NB217_247.out; have hnb38 := NB247_232.out; have hnc38 := NB232_247.out; have hnb39 := NB247_239.out; have hnc39 := NB239_247.out; have hcz40_0 : w35.cell? ⟨gb247, 0, none⟩ = some (.slice none 0 0) := (blk_cell BK247.out 0).trans rfl; have hcz40_1 : w35.cell? ⟨gb247, 1, none⟩ = some (.slice none 0 0) := (blk_cell BK247.out 1).trans rfl; have hfz40_0 := blk_frozen BK247.out 0; have hfz40_1 := blk_frozen BK247.out 1; obtain ⟨Ao41, co41, eo41⟩ := Kd.R_slice HO245.out; subst eo41))
    (try simp only [Act.put, List.setIfInBounds_toArray, List.set_cons_zero, List.set_cons_succ])
    go_cut [44] (fun v44 wc => ∃ (kq : Nat) (x44_11 : Bool), v44 = .bool x44_11 ∧ Aside0 (laws_FnExactEachOne.j0 kq a0 t231 t246 x44_11 l1_0 l1_1 t225 t228 t233 t236 t240 t243 = some r) ∧ Aside0 (kq ≤ k) ∧ Aside0 (Kd.R (Kd.int .i64) 3 wc w.heap.size (fun k_ => some k_ ≠ ((.slice Ao25 t228.length co25) : Value).ownBlock ∧ some k_ ≠ ((.slice Ao29 t233.length co29) : Value).ownBlock ∧ some k_ ≠ ((.slice Ao33 t236.length co33) : Value).ownBlock ∧ some k_ ≠ ((.slice Ao36 t240.length co36) : Value).ownBlock ∧ some k_ ≠ ((.slice Ao41 t243.length co41) : Value).ownBlock) (.slice Ao22 t225.length co22) t225) ∧ Aside0 (Kd.R (Kd.int .i64) 3 wc w.heap.size (fun k_ => some k_ ≠ ((.slice Ao22 t225.length co22) : Value).ownBlock ∧ some k_ ≠ ((.slice Ao29 t233.length co29) : Value).ownBlock ∧ some k_ ≠ ((.slice Ao33 t236.length co33) : Value).ownBlock ∧ some k_ ≠ ((.slice Ao36 t240.length co36) : Value).ownBlock ∧ some k_ ≠ ((.slice Ao41 t243.length co41) : Value).ownBlock) (.slice Ao25 t228.length co25) t228) ∧ Aside0 (Kd.R (Kd.int .i64) 3 wc w.heap.size (fun k_ => some k_ ≠ ((.slice Ao22 t225.length co22) : Value).ownBlock ∧ some k_ ≠ ((.slice Ao25 t228.length co25) : Value).ownBlock ∧ some k_ ≠ ((.slice Ao33 t236.length co33) : Value).ownBlock ∧ some k_ ≠ ((.slice Ao36 t240.length co36) : Value).ownBlock ∧ some k_ ≠ ((.slice Ao41 t243.length co41) : Value).ownBlock) (.slice Ao29 t233.length co29) t233) ∧ Aside0 (Kd.R (Kd.int .i64) 3 wc w.heap.size (fun k_ => some k_ ≠ ((.slice Ao22 t225.length co22) : Value).ownBlock ∧ some k_ ≠ ((.slice Ao25 t228.length co25) : Value).ownBlock ∧ some k_ ≠ ((.slice Ao29 t233.length co29) : Value).ownBlock ∧ some k_ ≠ ((.slice Ao36 t240.length co36) : Value).ownBlock ∧ some k_ ≠ ((.slice Ao41 t243.length co41) : Value).ownBlock) (.slice Ao33 t236.length co33) t236) ∧ Aside0 (Kd.R (Kd.int .i64) 3 wc w.heap.size (fun k_ => some k_ ≠ ((.slice Ao22 t225.length co22) : Value).ownBlock ∧ some k_ ≠ ((.slice Ao25 t228.length co25) : Value).ownBlock ∧ some k_ ≠ ((.slice Ao29 t233.length co29) : Value).ownBlock ∧ some k_ ≠ ((.slice Ao33 t236.length co33) : Value).ownBlock ∧ some k_ ≠ ((.slice Ao41 t243.length co41) : Value).ownBlock) (.slice Ao36 t240.length co36) t240) ∧ Aside0 (Kd.R (Kd.int .i64) 3 wc w.heap.size (fun k_ => some k_ ≠ ((.slice Ao22 t225.length co22) : Value).ownBlock ∧ some k_ ≠ ((.slice Ao25 t228.length co25) : Value).ownBlock ∧ some k_ ≠ ((.slice Ao29 t233.length co29) : Value).ownBlock ∧ some k_ ≠ ((.slice Ao33 t236.length co33) : Value).ownBlock ∧ some k_ ≠ ((.slice Ao36 t240.length co36) : Value).ownBlock) (.slice Ao41 t243.length co41) t243) ∧ Aside0 (wc.heap[gb217]? = some (.cells #[(.slice A1_0 l1_0.length c1_0), (.slice A1_1 l1_1.length c1_1)] 24 (0, 0))) ∧ Aside0 (wc.heap[gb232]? = some (.cells #[(.slice Ao22 t225.length co22), (.slice Ao25 t228.length co25)] 26 (0, 0))) ∧ Aside0 (wc.heap[gb239]? = some (.cells #[(.slice Ao29 t233.length co29), (.slice Ao33 t236.length co33)] 26 (0, 0))) ∧ Aside0 (wc.heap[gb247]? = some (.cells #[(.slice Ao36 t240.length co36), (.slice Ao41 t243.length co41)] 26 (0, 0))) ∧ Aside0 (Below w.heap.size w wc))
    case first =>
      have H := HC12.out
      clear HC12
      replace H := Option.bind_eq_some_iff.mp H
      obtain ⟨t248, A420, H⟩ := H
      replace H : (if t248 = true then (laws_FnExactEachOne.j0 k a0 t231 t246 (t246 != t231) l1_0 l1_1 t225 t228 t233 t236 t240 t243) else (laws_FnExactEachOne.j0 k a0 t231 t246 true l1_0 l1_1 t225 t228 t233 t236 t240 t243)) = some r := H
      have A42 := Aside0.mk A420
      clear A420
      by_cases c43 : t248 = true
      · subst c43
        have H1 : (laws_FnExactEachOne.j0 k a0 t231 t246 (t246 != t231) l1_0 l1_1 t225 t228 t233 t236 t240 t243) = some r := by rw [if_pos rfl] at H; exact H
        clear H
        have H := H1
        clear H1
        have H' := Aside0.mk H
        clear H
        have hnb44 := NB247_217.out
        have hnc44 := NB217_247.out
        have hnb45 := NB247_232.out
        have hnc45 := NB232_247.out
        have hnb46 := NB247_239.out
        have hnc46 := NB239_247.out
        have hcz47_0 : w35.cell? ⟨gb247, 0, none⟩ = some (.slice none 0 0) := (blk_cell BK247.out 0).trans rfl
        have hcz47_1 : w35.cell? ⟨gb247, 1, none⟩ = some (.slice none 0 0) := (blk_cell BK247.out 1).trans rfl
        have hfz47_0 := blk_frozen BK247.out 0
        have hfz47_1 := blk_frozen BK247.out 1
        have hnb48 := NB232_217.out
        have hnc48 := NB217_232.out
        have hnb49 := NB232_239.out
        have hnc49 := NB239_232.out
        have hcz50_0 : w35.cell? ⟨gb232, 0, none⟩ = some (.slice Ao22 t225.length co22) := (blk_cell BK232.out 0).trans rfl
        have hcz50_1 : w35.cell? ⟨gb232, 1, none⟩ = some (.slice Ao25 t228.length co25) := (blk_cell BK232.out 1).trans rfl
        have hfz50_0 := blk_frozen BK232.out 0
        have hfz50_1 := blk_frozen BK232.out 1
        go_wp2_with (first | ((with_reducible refine gate_callee (f := 19) rfl ?_); refine goesL_ (some 38) rfl rfl Try.func19 (by kernel_rfl) rfl #[.agg #[.slice Ao36 t240.length co36, .slice Ao41 t243.length co41], .agg #[.slice Ao22 t225.length co22, .slice Ao25 t228.length co25]] rfl (by (try simp only [List.map_toArray, List.map_cons, List.map_nil]); first | done | rfl | (simp only [List.length_drop, List.length_take]; rfl)) ?_; (with_reducible refine (laws_eqArray.calls k _ _ t240 _ _ t243 _ _ t225 _ _ t228 true _ ?side1 ?side2 ?side3 ?side4 ?side5 ?side6 ?side7 ?side8 A42.out).mono ?_); (case side1 => refine (Kd.R_reads' (e := 3) (base := w.heap.size) (ok := fun k_ => ((((((some k_ ≠ (.slice Ao41 t243.length co41 : Value).ownBlock ∧ some k_ ≠ (.slice Ao18 t219.length co18 : Value).ownBlock) ∧ some k_ ≠ (.slice Ao19 t222.length co19 : Value).ownBlock) ∧ some k_ ≠ (.slice Ao22 t225.length co22 : Value).ownBlock) ∧ some k_ ≠ (.slice Ao25 t228.length co25 : Value).ownBlock) ∧ some k_ ≠ (.slice Ao29 t233.length co29 : Value).ownBlock) ∧ some k_ ≠ (.slice Ao33 t236.length co33 : Value).ownBlock)) (n := t240.length) (c := co36) ?_).2.2; exact (by (with_reducible repeat (first | apply Kd.R_alloc | apply Kd.R_drewN | apply Kd.R_drew)); exact (Kd.R_mono (Kd.R_far (p := ⟨gb247, 1, none⟩) (Kd.R_far (p := ⟨gb247, 0, none⟩) (Kd.R_types HO242.out BK247.out (by decide)) (fun _ hk => hk.2) (.slice Ao36 t240.length co36)) (fun _ hk => hk.2) (.slice Ao41 t243.length co41)) (fun _ h_ => h_.1)))); (case side2 => exact (Kd.R_reads' HO242.out).2.1); (case side3 => refine (Kd.R_reads' (e := 3) (base := w.heap.size) (ok := fun k_ => ((((((some k_ ≠ (.slice Ao36 t240.length co36 : Value).ownBlock ∧ some k_ ≠ (.slice Ao18 t219.length co18 : Value).ownBlock) ∧ some k_ ≠ (.slice Ao19 t222.length co19 : Value).ownBlock) ∧ some k_ ≠ (.slice Ao22 t225.length co22 : Value).ownBlock) ∧ some k_ ≠ (.slice Ao25 t228.length co25 : Value).ownBlock) ∧ some k_ ≠ (.slice Ao29 t233.length co29 : Value).ownBlock) ∧ some k_ ≠ (.slice Ao33 t236.length co33 : Value).ownBlock)) (n := t243.length) (c := co41) ?_).2.2; exact (by (with_reducible repeat (first | apply Kd.R_alloc | apply Kd.R_drewN | apply Kd.R_drew)); exact (Kd.R_mono (Kd.R_far (p := ⟨gb247, 1, none⟩) (Kd.R_far (p := ⟨gb247, 0, none⟩) (Kd.R_types HO245.out BK247.out (by decide)) (fun _ hk => hk.2) (.slice Ao36 t240.length co36)) (fun _ hk => hk.2) (.slice Ao41 t243.length co41)) (fun _ h_ => h_.1)))); (case side4 => exact (Kd.R_reads' HO245.out).2.1); (case side5 => refine (Kd.R_reads' (e := 3) (base := w.heap.size) (ok := fun k_ => ((((((some k_ ≠ (.slice Ao25 t228.length co25 : Value).ownBlock ∧ some k_ ≠ (.slice Ao18 t219.length co18 : Value).ownBlock) ∧ some k_ ≠ (.slice Ao19 t222.length co19 : Value).ownBlock) ∧ some k_ ≠ (.slice Ao29 t233.length co29 : Value).ownBlock) ∧ some k_ ≠ (.slice Ao33 t236.length co33 : Value).ownBlock) ∧ some k_ ≠ (.slice Ao36 t240.length co36 : Value).ownBlock) ∧ some k_ ≠ (.slice Ao41 t243.length co41 : Value).ownBlock)) (n := t225.length) (c := co22) ?_).2.2; exact (by (with_reducible repeat (first | apply Kd.R_alloc | apply Kd.R_drewN | apply Kd.R_drew)); exact (Kd.R_mono (Kd.R_far (p := ⟨gb247, 1, none⟩) (Kd.R_far (p := ⟨gb247, 0, none⟩) (Kd.R_types HO227.out BK247.out (by decide)) (fun _ hk => hk.2) (.slice Ao36 t240.length co36)) (fun _ hk => hk.2) (.slice Ao41 t243.length co41)) (fun _ h_ => h_.1)))); (case side6 => exact (Kd.R_reads' HO227.out).2.1); (case side7 => refine (Kd.R_reads' (e := 3) (base := w.heap.size) (ok := fun k_ => ((((((some k_ ≠ (.slice Ao22 t225.length co22 : Value).ownBlock ∧ some k_ ≠ (.slice Ao18 t219.length co18 : Value).ownBlock) ∧ some k_ ≠ (.slice Ao19 t222.length co19 : Value).ownBlock) ∧ some k_ ≠ (.slice Ao29 t233.length co29 : Value).ownBlock) ∧ some k_ ≠ (.slice Ao33 t236.length co33 : Value).ownBlock) ∧ some k_ ≠ (.slice Ao36 t240.length co36 : Value).ownBlock) ∧ some k_ ≠ (.slice Ao41 t243.length co41 : Value).ownBlock)) (n := t228.length) (c := co25) ?_).2.2; exact (by (with_reducible repeat (first | apply Kd.R_alloc | apply Kd.R_drewN | apply Kd.R_drew)); exact (Kd.R_mono (Kd.R_far (p := ⟨gb247, 1, none⟩) (Kd.R_far (p := ⟨gb247, 0, none⟩) (Kd.R_types HO230.out BK247.out (by decide)) (fun _ hk => hk.2) (.slice Ao36 t240.length co36)) (fun _ hk => hk.2) (.slice Ao41 t243.length co41)) (fun _ h_ => h_.1)))); (case side8 => exact (Kd.R_reads' HO230.out).2.1); rintro e w51 ⟨rfl, hb⟩; refine ⟨_, rfl, ?_⟩; have n0_ := Aside0.mk (Kd.R_below (by (with_reducible repeat (first | apply Kd.R_alloc | apply Kd.R_drewN | apply Kd.R_drew)); exact (Kd.R_mono (Kd.R_far (p := ⟨gb247, 1, none⟩) (Kd.R_far (p := ⟨gb247, 0, none⟩) (Kd.R_types HO221.out BK247.out (by decide)) (fun _ hk => hk.2) (.slice Ao36 t240.length co36)) (fun _ hk => hk.2) (.slice Ao41 t243.length co41)) (fun _ h_ => h_.1))) hb); have n1_ := Aside0.mk (Kd.R_below (by (with_reducible repeat (first | apply Kd.R_alloc | apply Kd.R_drewN | apply Kd.R_drew)); exact (Kd.R_mono (Kd.R_far (p := ⟨gb247, 1, none⟩) (Kd.R_far (p := ⟨gb247, 0, none⟩) (Kd.R_types HO224.out BK247.out (by decide)) (fun _ hk => hk.2) (.slice Ao36 t240.length co36)) (fun _ hk => hk.2) (.slice Ao41 t243.length co41)) (fun _ h_ => h_.1))) hb); have n2_ := Aside0.mk (Kd.R_below (by (with_reducible repeat (first | apply Kd.R_alloc | apply Kd.R_drewN | apply Kd.R_drew)); exact (Kd.R_mono (Kd.R_far (p := ⟨gb247, 1, none⟩) (Kd.R_far (p := ⟨gb247, 0, none⟩) (Kd.R_types HO227.out BK247.out (by decide)) (fun _ hk => hk.2) (.slice Ao36 t240.length co36)) (fun _ hk => hk.2) (.slice Ao41 t243.length co41)) (fun _ h_ => h_.1))) hb); have n3_ := Aside0.mk (Kd.R_below (by (with_reducible repeat (first | apply Kd.R_alloc | apply Kd.R_drewN | apply Kd.R_drew)); exact (Kd.R_mono (Kd.R_far (p := ⟨gb247, 1, none⟩) (Kd.R_far (p := ⟨gb247, 0, none⟩) (Kd.R_types HO230.out BK247.out (by decide)) (fun _ hk => hk.2) (.slice Ao36 t240.length co36)) (fun _ hk => hk.2) (.slice Ao41 t243.length co41)) (fun _ h_ => h_.1))) hb); have n4_ := Aside0.mk (Kd.R_below (by (with_reducible repeat (first | apply Kd.R_alloc | apply Kd.R_drewN | apply Kd.R_drew)); exact (Kd.R_mono (Kd.R_far (p := ⟨gb247, 1, none⟩) (Kd.R_far (p := ⟨gb247, 0, none⟩) (Kd.R_types HO235.out BK247.out (by decide)) (fun _ hk => hk.2) (.slice Ao36 t240.length co36)) (fun _ hk => hk.2) (.slice Ao41 t243.length co41)) (fun _ h_ => h_.1))) hb); have n5_ := Aside0.mk (Kd.R_below (by (with_reducible repeat (first | apply Kd.R_alloc | apply Kd.R_drewN | apply Kd.R_drew)); exact (Kd.R_mono (Kd.R_far (p := ⟨gb247, 1, none⟩) (Kd.R_far (p := ⟨gb247, 0, none⟩) (Kd.R_types HO238.out BK247.out (by decide)) (fun _ hk => hk.2) (.slice Ao36 t240.length co36)) (fun _ hk => hk.2) (.slice Ao41 t243.length co41)) (fun _ h_ => h_.1))) hb); have n6_ := Aside0.mk (Kd.R_below (by (with_reducible repeat (first | apply Kd.R_alloc | apply Kd.R_drewN | apply Kd.R_drew)); exact (Kd.R_mono (Kd.R_far (p := ⟨gb247, 1, none⟩) (Kd.R_far (p := ⟨gb247, 0, none⟩) (Kd.R_types HO242.out BK247.out (by decide)) (fun _ hk => hk.2) (.slice Ao36 t240.length co36)) (fun _ hk => hk.2) (.slice Ao41 t243.length co41)) (fun _ h_ => h_.1))) hb); have n7_ := Aside0.mk (Kd.R_below (by (with_reducible repeat (first | apply Kd.R_alloc | apply Kd.R_drewN | apply Kd.R_drew)); exact (Kd.R_mono (Kd.R_far (p := ⟨gb247, 1, none⟩) (Kd.R_far (p := ⟨gb247, 0, none⟩) (Kd.R_types HO245.out BK247.out (by decide)) (fun _ hk => hk.2) (.slice Ao36 t240.length co36)) (fun _ hk => hk.2) (.slice Ao41 t243.length co41)) (fun _ h_ => h_.1))) hb); have n8_ := Aside0.mk (blk_below (g := gb217) (o := .cells #[.slice A1_0 l1_0.length c1_0, .slice A1_1 l1_1.length c1_1] 24 (0, 0)) (by (with_reducible repeat (first | refine blk_drewN ?_ _ | refine blk_drew ?_ | refine blk_alloc ?_ _)); refine blk_far ?_ NB217_247.out _; (with_reducible repeat (first | refine blk_drewN ?_ _ | refine blk_drew ?_ | refine blk_alloc ?_ _)); refine blk_far ?_ NB217_247.out _; (with_reducible repeat (first | refine blk_drewN ?_ _ | refine blk_drew ?_ | refine blk_alloc ?_ _)); exact BK217.out) hb); have n9_ := Aside0.mk (blk_below (g := gb232) (o := .cells #[.slice Ao22 t225.length co22, .slice Ao25 t228.length co25] 26 (0, 0)) (by (with_reducible repeat (first | refine blk_drewN ?_ _ | refine blk_drew ?_ | refine blk_alloc ?_ _)); refine blk_far ?_ NB232_247.out _; (with_reducible repeat (first | refine blk_drewN ?_ _ | refine blk_drew ?_ | refine blk_alloc ?_ _)); refine blk_far ?_ NB232_247.out _; (with_reducible repeat (first | refine blk_drewN ?_ _ | refine blk_drew ?_ | refine blk_alloc ?_ _)); exact BK232.out) hb); have n10_ := Aside0.mk (blk_below (g := gb239) (o := .cells #[.slice Ao29 t233.length co29, .slice Ao33 t236.length co33] 26 (0, 0)) (by (with_reducible repeat (first | refine blk_drewN ?_ _ | refine blk_drew ?_ | refine blk_alloc ?_ _)); refine blk_far ?_ NB239_247.out _; (with_reducible repeat (first | refine blk_drewN ?_ _ | refine blk_drew ?_ | refine blk_alloc ?_ _)); refine blk_far ?_ NB239_247.out _; (with_reducible repeat (first | refine blk_drewN ?_ _ | refine blk_drew ?_ | refine blk_alloc ?_ _)); exact BK239.out) hb); have n11_ := Aside0.mk (blk_below (g := gb247) (o := .cells #[.slice Ao36 t240.length co36, .slice Ao41 t243.length co41] 26 (0, 0)) (by (with_reducible repeat (first | refine blk_drewN ?_ _ | refine blk_drew ?_ | refine blk_alloc ?_ _)); refine blk_put (cs := #[.slice Ao36 t240.length co36, .slice none 0 0]) ?_ 1 _ rfl; (with_reducible repeat (first | refine blk_drewN ?_ _ | refine blk_drew ?_ | refine blk_alloc ?_ _)); refine blk_put (cs := #[.slice none 0 0, .slice none 0 0]) ?_ 0 _ rfl; (with_reducible repeat (first | refine blk_drewN ?_ _ | refine blk_drew ?_ | refine blk_alloc ?_ _)); exact BK247.out) hb); have n12_ := Aside0.mk (below_step (by repeat (first | (with_reducible first | exact HB.out | apply below_alloc | apply pw_below_drewN | apply below_drew1 | refine below_set ?_ GE217.out | refine below_set ?_ GE232.out | refine below_set ?_ GE239.out | refine below_set ?_ GE247.out) | exact HB.out)) hb); clear HO221; clear HO224; clear HO227; clear HO230; clear HO235; clear HO238; clear HO242; clear HO245; clear BK217; clear BK232; clear BK239; clear BK247; clear HB; have HO221 := n0_; have HO224 := n1_; have HO227 := n2_; have HO230 := n3_; have HO235 := n4_; have HO238 := n5_; have HO242 := n6_; have HO245 := n7_; have BK217 := n8_; have BK232 := n9_; have BK239 := n10_; have BK247 := n11_; have HB := n12_; clear n0_ n1_ n2_ n3_ n4_ n5_ n6_ n7_ n8_ n9_ n10_ n11_ n12_; (try clear hb); (try clear hb2); (try clear hk); (try clear hi)))
        go_meet
        case rel => exact ⟨_, ((t246 != t231)), (by first | rfl | (simp; done) | (simp [*]; done)), H', ⟨by first | omega | exact Nat.le_refl _⟩, ⟨by (with_reducible repeat (first | apply Kd.R_alloc | apply Kd.R_drewN | apply Kd.R_drew)); exact Kd.R_mono HO227.out (fun _ hk => ⟨hk.1.1.1.1.1.1, ⟨hk.1.1.1.2, ⟨hk.1.1.2, ⟨hk.1.2, hk.2⟩⟩⟩⟩)⟩, ⟨by (with_reducible repeat (first | apply Kd.R_alloc | apply Kd.R_drewN | apply Kd.R_drew)); exact Kd.R_mono HO230.out (fun _ hk => ⟨hk.1.1.1.1.1.1, ⟨hk.1.1.1.2, ⟨hk.1.1.2, ⟨hk.1.2, hk.2⟩⟩⟩⟩)⟩, ⟨by (with_reducible repeat (first | apply Kd.R_alloc | apply Kd.R_drewN | apply Kd.R_drew)); exact Kd.R_mono HO235.out (fun _ hk => ⟨hk.1.1.1.2, ⟨hk.1.1.2, ⟨hk.1.1.1.1.1.1, ⟨hk.1.2, hk.2⟩⟩⟩⟩)⟩, ⟨by (with_reducible repeat (first | apply Kd.R_alloc | apply Kd.R_drewN | apply Kd.R_drew)); exact Kd.R_mono HO238.out (fun _ hk => ⟨hk.1.1.1.2, ⟨hk.1.1.2, ⟨hk.1.1.1.1.1.1, ⟨hk.1.2, hk.2⟩⟩⟩⟩)⟩, ⟨by (with_reducible repeat (first | apply Kd.R_alloc | apply Kd.R_drewN | apply Kd.R_drew)); exact Kd.R_mono HO242.out (fun _ hk => ⟨hk.1.1.1.2, ⟨hk.1.1.2, ⟨hk.1.2, ⟨hk.2, hk.1.1.1.1.1.1⟩⟩⟩⟩)⟩, ⟨by (with_reducible repeat (first | apply Kd.R_alloc | apply Kd.R_drewN | apply Kd.R_drew)); exact Kd.R_mono HO245.out (fun _ hk => ⟨hk.1.1.1.2, ⟨hk.1.1.2, ⟨hk.1.2, ⟨hk.2, hk.1.1.1.1.1.1⟩⟩⟩⟩)⟩, ⟨by (with_reducible repeat (first | refine blk_drewN ?_ _ | refine blk_drew ?_ | refine blk_alloc ?_ _)); exact BK217.out⟩, ⟨by (with_reducible repeat (first | refine blk_drewN ?_ _ | refine blk_drew ?_ | refine blk_alloc ?_ _)); exact BK232.out⟩, ⟨by (with_reducible repeat (first | refine blk_drewN ?_ _ | refine blk_drew ?_ | refine blk_alloc ?_ _)); exact BK239.out⟩, ⟨by (with_reducible repeat (first | refine blk_drewN ?_ _ | refine blk_drew ?_ | refine blk_alloc ?_ _)); exact BK247.out⟩, ⟨by repeat (first | (with_reducible first | exact HB.out | apply below_alloc | apply pw_below_drewN | apply below_drew1 | refine below_set ?_ GE217.out | refine below_set ?_ GE232.out | refine below_set ?_ GE239.out | refine below_set ?_ GE247.out) | exact HB.out)⟩⟩
      · replace c43 := Bool.eq_false_iff.mpr c43
        subst c43
        have H1 : (laws_FnExactEachOne.j0 k a0 t231 t246 true l1_0 l1_1 t225 t228 t233 t236 t240 t243) = some r := by rw [if_neg (show ¬ (false = true) by decide)] at H; exact H
        clear H
        have H := H1
        clear H1
        have hz_ : ∀ kz, laws_FnExactEachOne.j0 kz a0 t231 t246 true l1_0 l1_1 t225 t228 t233 t236 t240 t243 = some r → r = false := by intro kz hz; cases kz with | zero => exact absurd hz (by simp [laws_FnExactEachOne.j0]) | succ kz => simp only [laws_FnExactEachOne.j0] at hz; first | (rw [if_pos rfl] at hz; exact (Option.some.inj hz).symm) | (simp at hz; exact hz.symm) | (simp at hz; exact hz)
        exact absurd (HT.out.symm.trans (hz_ _ H)) (by decide)
    case rest =>
      clear HC12
      try clear c1
      try clear c2
      try clear p2
      try clear c3
      try clear c4
      try clear c4b0
      try clear c5
      try clear c13
      try clear c15
      try clear c17
      try clear c19
      try clear c23
      try clear c30
      try clear c31
      try clear c37
      try clear c38
      try clear c39
      try clear c43
      try clear c44
      try clear c45
      try clear c46
      try clear c48
      try clear c49
      try clear hcz14_0
      try clear hcz14_1
      try clear hcz16_0
      try clear hcz16_1
      try clear hcz24_0
      try clear hcz24_1
      try clear hcz26_0
      try clear hcz26_1
      try clear hcz32_0
      try clear hcz32_1
      try clear hcz40_0
      try clear hcz40_1
      try clear hcz47_0
      try clear hcz47_1
      try clear hcz50_0
      try clear hcz50_1
      try clear hcz6_0
      try clear hcz6_1
      try clear hfz14_0
      try clear hfz14_1
      try clear hfz16_0
      try clear hfz16_1
      try clear hfz24_0
      try clear hfz24_1
      try clear hfz26_0
      try clear hfz26_1
      try clear hfz32_0
      try clear hfz32_1
      try clear hfz40_0
      try clear hfz40_1
      try clear hfz47_0
      try clear hfz47_1
      try clear hfz50_0
      try clear hfz50_1
      try clear hfz6_0
      try clear hfz6_1
      obtain ⟨kq, x44_11, rfl, HA, HJ11, HO_233000, HO_233001, HO_240000, HO_240001, HO_248000, HO_248001, BK217, BK232, BK239, BK247, HB⟩ := hcut
      cases kq with
      | zero => exact absurd HA.out (by simp [laws_FnExactEachOne.j0])
      | succ kj11 =>
        have H := HA.out
        clear HA
        simp only [laws_FnExactEachOne.j0] at H
        by_cases c52 : x44_11 = true
        · subst c52
          have H1 : (some false) = some r := by rw [if_pos rfl] at H; exact H
          clear H
          have H := H1
          clear H1
          obtain rfl := Option.some.inj H
          exact absurd HT.out (by decide)
        · replace c52 := Bool.eq_false_iff.mpr c52
          subst c52
          have H1 : ((laws_toArray.f kj11 l1_0 l1_1).bind fun bt249 => ((laws_eqArray.f kj11 t233 t236 bt249.1 bt249.2).bind fun t255 => (if t255 = true then ((laws_markArray.f kj11 t233 t236 1).bind fun bt256 => (if bt256.1 < 0 then (laws_FnExactEachOne.j1 kj11 a0 t231 true l1_0 l1_1 t225 t228 t240 t243) else ((laws_eqArray.f kj11 t240 t243 t225 t228).bind fun t259 => (if t259 = true then (laws_FnExactEachOne.j1 kj11 a0 t231 (t246 != t231) l1_0 l1_1 t225 t228 t240 t243) else (laws_FnExactEachOne.j1 kj11 a0 t231 true l1_0 l1_1 t225 t228 t240 t243))))) else (some false)))) = some r := by rw [if_neg (show ¬ (false = true) by decide)] at H; exact H
          clear H
          have H := H1
          clear H1
          replace H := Option.bind_eq_some_iff.mp H
          obtain ⟨⟨t249, t252⟩, A530, H⟩ := H
          replace H : ((laws_eqArray.f kj11 t233 t236 t249 t252).bind fun t255 => (if t255 = true then ((laws_markArray.f kj11 t233 t236 1).bind fun bt256 => (if bt256.1 < 0 then (laws_FnExactEachOne.j1 kj11 a0 t231 true l1_0 l1_1 t225 t228 t240 t243) else ((laws_eqArray.f kj11 t240 t243 t225 t228).bind fun t259 => (if t259 = true then (laws_FnExactEachOne.j1 kj11 a0 t231 (t246 != t231) l1_0 l1_1 t225 t228 t240 t243) else (laws_FnExactEachOne.j1 kj11 a0 t231 true l1_0 l1_1 t225 t228 t240 t243))))) else (some false))) = some r := H
          have A53 := Aside0.mk A530
          clear A530
          replace H := Option.bind_eq_some_iff.mp H
          obtain ⟨t255, A540, H⟩ := H
          replace H : (if t255 = true then ((laws_markArray.f kj11 t233 t236 1).bind fun bt256 => (if bt256.1 < 0 then (laws_FnExactEachOne.j1 kj11 a0 t231 true l1_0 l1_1 t225 t228 t240 t243) else ((laws_eqArray.f kj11 t240 t243 t225 t228).bind fun t259 => (if t259 = true then (laws_FnExactEachOne.j1 kj11 a0 t231 (t246 != t231) l1_0 l1_1 t225 t228 t240 t243) else (laws_FnExactEachOne.j1 kj11 a0 t231 true l1_0 l1_1 t225 t228 t240 t243))))) else (some false)) = some r := H
          have A54 := Aside0.mk A540
          clear A540
          by_cases c55 : t255 = true
          · subst c55
            have H1 : ((laws_markArray.f kj11 t233 t236 1).bind fun bt256 => (if bt256.1 < 0 then (laws_FnExactEachOne.j1 kj11 a0 t231 true l1_0 l1_1 t225 t228 t240 t243) else ((laws_eqArray.f kj11 t240 t243 t225 t228).bind fun t259 => (if t259 = true then (laws_FnExactEachOne.j1 kj11 a0 t231 (t246 != t231) l1_0 l1_1 t225 t228 t240 t243) else (laws_FnExactEachOne.j1 kj11 a0 t231 true l1_0 l1_1 t225 t228 t240 t243))))) = some r := by rw [if_pos rfl] at H; exact H
            clear H
            have H := H1
            clear H1
            replace H := Option.bind_eq_some_iff.mp H
            obtain ⟨⟨t256, t257, t258⟩, A560, H⟩ := H
            replace H : (if t256 < 0 then (laws_FnExactEachOne.j1 kj11 a0 t231 true l1_0 l1_1 t225 t228 t240 t243) else ((laws_eqArray.f kj11 t240 t243 t225 t228).bind fun t259 => (if t259 = true then (laws_FnExactEachOne.j1 kj11 a0 t231 (t246 != t231) l1_0 l1_1 t225 t228 t240 t243) else (laws_FnExactEachOne.j1 kj11 a0 t231 true l1_0 l1_1 t225 t228 t240 t243)))) = some r := H
            have A56 := Aside0.mk A560
            clear A560
            have HC57 := Aside0.mk H
            clear H
            try go_wp2
            have n0_ := Aside0.mk (Kd.R_drew HO_233000.out)
            have n1_ := Aside0.mk (Kd.R_drew HO_233001.out)
            have n2_ := Aside0.mk (Kd.R_drew HO_240000.out)
            have n3_ := Aside0.mk (Kd.R_drew HO_240001.out)
            have n4_ := Aside0.mk (Kd.R_drew HO_248000.out)
            have n5_ := Aside0.mk (Kd.R_drew HO_248001.out)
            have n6_ := Aside0.mk (blk_drew BK217.out)
            have n7_ := Aside0.mk (blk_drew BK232.out)
            have n8_ := Aside0.mk (blk_drew BK239.out)
            have n9_ := Aside0.mk (blk_drew BK247.out)
            have n10_ := Aside0.mk (below_drew1 HB.out)
            clear HO_233000
            clear HO_233001
            clear HO_240000
            clear HO_240001
            clear HO_248000
            clear HO_248001
            clear BK217
            clear BK232
            clear BK239
            clear BK247
            clear HB
            have HO_233000 := n0_
            have HO_233001 := n1_
            have HO_240000 := n2_
            have HO_240001 := n3_
            have HO_248000 := n4_
            have HO_248001 := n5_
            have BK217 := n6_
            have BK232 := n7_
            have BK239 := n8_
            have BK247 := n9_
            have HB := n10_
            clear n0_ n1_ n2_ n3_ n4_ n5_ n6_ n7_ n8_ n9_ n10_
            refine start_ (n := 5) (S := fun w' => w'.cell? ⟨gb239, 0, none⟩ = some (.slice Ao29 t233.length co29) ∧ w'.cell? ⟨gb239, 1, none⟩ = some (.slice Ao33 t236.length co33) ∧ w'.cell? ⟨gb217, 0, none⟩ = some (.slice A1_0 l1_0.length c1_0) ∧ w'.cell? ⟨gb217, 1, none⟩ = some (.slice A1_1 l1_1.length c1_1)) (ds := []) #[false, false, false, false, false] (by kernel_rfl) rfl rfl ⟨(blk_cell BK239.out 0).trans rfl, (blk_cell BK239.out 1).trans rfl, (blk_cell BK217.out 0).trans rfl, (blk_cell BK217.out 1).trans rfl⟩ (fun hHeld => ?_)
            generalize wc.drew = w58 at HO_233000 HO_233001 HO_240000 HO_240001 HO_248000 HO_248001 BK217 BK232 BK239 BK247 HB hHeld ⊢
            refine take_ (i := 0) (N := some 45) (v := ?_) (a' := ?_) #[true, false, false, false, false] rfl rfl (by kernel_rfl) (fun _ _ _ h => h) (Or.inl ⟨by rfl, ?_⟩) hHeld ?_ ?_
            rotate_left
            · rintro w' ⟨s0, s1, s2, s3⟩
              go_simp
              with_reducible rfl
            rotate_left
            · simp only [Act.put, List.setIfInBounds_toArray, List.set_cons_zero, List.set_cons_succ, i64_w, i32_w]
              rfl
            refine take_ (i := 1) (N := some 46) (v := ?_) (a' := ?_) #[true, true, false, false, false] rfl rfl (by kernel_rfl) (fun _ _ _ h => h) (Or.inl ⟨by rfl, ?_⟩) hHeld ?_ ?_
            rotate_left
            · rintro w' ⟨s0, s1, s2, s3⟩
              go_simp
              with_reducible rfl
            rotate_left
            · simp only [Act.put, List.setIfInBounds_toArray, List.set_cons_zero, List.set_cons_succ, i64_w, i32_w]
              rfl
            refine one_ (i := 2) (N := some 47) #[true, true, true, false, false] rfl rfl (by kernel_rfl) (by decide) (fun K hK => ?_)
            refine goes_ Try.func17 (by kernel_rfl) rfl #[.agg #[.slice A1_0 l1_0.length c1_0, .slice A1_1 l1_1.length c1_1]] (by rfl) rfl rfl (by (try simp only [List.map_toArray, List.map_cons, List.map_nil]); first | done | rfl | (simp only [List.length_drop, List.length_take]; rfl)) ?_
            with_reducible refine (laws_toArray.calls kj11 _ _ l1_0 _ _ l1_1 t249 t252 _ ?side1 ?side2 ?side3 ?side4 A53.out).mono ?_
            (case side1 => repeat (first | exact (Kd.C_below HR1_0.out HB.out) | (with_reducible refine Kd.C_alloc ?_ _) | (with_reducible refine Kd.C_drewN ?_ _) | (with_reducible refine Kd.C_drew ?_)))
            (case side2 => exact HC1_0.out)
            (case side3 => repeat (first | exact (Kd.C_below HR1_1.out HB.out) | (with_reducible refine Kd.C_alloc ?_ _) | (with_reducible refine Kd.C_drewN ?_ _) | (with_reducible refine Kd.C_drew ?_)))
            (case side4 => exact HC1_1.out)
            rintro e w59 ⟨v250, v253, rfl, ho0, ho1, hb⟩
            refine ⟨_, rfl, ?_⟩
            have n0_ := Aside0.mk (Kd.R_mono (Kd.R_told (Kd.R_told (Kd.R_old (by (with_reducible repeat (first | apply Kd.R_alloc | apply Kd.R_drewN | apply Kd.R_drew)); exact HO_233000.out) hb) (Kd.R_base ho0)) (Kd.R_base ho1)) (fun _ h_ => h_.1))
            have n1_ := Aside0.mk (Kd.R_mono (Kd.R_told (Kd.R_told (Kd.R_old (by (with_reducible repeat (first | apply Kd.R_alloc | apply Kd.R_drewN | apply Kd.R_drew)); exact HO_233001.out) hb) (Kd.R_base ho0)) (Kd.R_base ho1)) (fun _ h_ => h_.1))
            have n2_ := Aside0.mk (Kd.R_mono (Kd.R_told (Kd.R_told (Kd.R_old (by (with_reducible repeat (first | apply Kd.R_alloc | apply Kd.R_drewN | apply Kd.R_drew)); exact HO_240000.out) hb) (Kd.R_base ho0)) (Kd.R_base ho1)) (fun _ h_ => h_.1))
            have n3_ := Aside0.mk (Kd.R_mono (Kd.R_told (Kd.R_told (Kd.R_old (by (with_reducible repeat (first | apply Kd.R_alloc | apply Kd.R_drewN | apply Kd.R_drew)); exact HO_240001.out) hb) (Kd.R_base ho0)) (Kd.R_base ho1)) (fun _ h_ => h_.1))
            have n4_ := Aside0.mk (Kd.R_mono (Kd.R_told (Kd.R_told (Kd.R_old (by (with_reducible repeat (first | apply Kd.R_alloc | apply Kd.R_drewN | apply Kd.R_drew)); exact HO_248000.out) hb) (Kd.R_base ho0)) (Kd.R_base ho1)) (fun _ h_ => h_.1))
            have n5_ := Aside0.mk (Kd.R_mono (Kd.R_told (Kd.R_told (Kd.R_old (by (with_reducible repeat (first | apply Kd.R_alloc | apply Kd.R_drewN | apply Kd.R_drew)); exact HO_248001.out) hb) (Kd.R_base ho0)) (Kd.R_base ho1)) (fun _ h_ => h_.1))
            have n6_ := Aside0.mk (Kd.R_lower (Kd.R_new' (Kd.R_new' (Kd.R_new' (Kd.R_new' (Kd.R_new' (Kd.R_new' ho0 (Kd.R_lt (by (with_reducible repeat (first | apply Kd.R_alloc | apply Kd.R_drewN | apply Kd.R_drew)); exact HO_233000.out))) (Kd.R_lt (by (with_reducible repeat (first | apply Kd.R_alloc | apply Kd.R_drewN | apply Kd.R_drew)); exact HO_233001.out))) (Kd.R_lt (by (with_reducible repeat (first | apply Kd.R_alloc | apply Kd.R_drewN | apply Kd.R_drew)); exact HO_240000.out))) (Kd.R_lt (by (with_reducible repeat (first | apply Kd.R_alloc | apply Kd.R_drewN | apply Kd.R_drew)); exact HO_240001.out))) (Kd.R_lt (by (with_reducible repeat (first | apply Kd.R_alloc | apply Kd.R_drewN | apply Kd.R_drew)); exact HO_248000.out))) (Kd.R_lt (by (with_reducible repeat (first | apply Kd.R_alloc | apply Kd.R_drewN | apply Kd.R_drew)); exact HO_248001.out))) (below_size (by repeat (first | (with_reducible first | exact HB.out | apply below_alloc | apply pw_below_drewN | apply below_drew1 | refine below_set ?_ GE217.out | refine below_set ?_ GE232.out | refine below_set ?_ GE239.out | refine below_set ?_ GE247.out) | exact HB.out))))
            have n7_ := Aside0.mk (Kd.R_lower (Kd.R_new' (Kd.R_new' (Kd.R_new' (Kd.R_new' (Kd.R_new' (Kd.R_new' ho1 (Kd.R_lt (by (with_reducible repeat (first | apply Kd.R_alloc | apply Kd.R_drewN | apply Kd.R_drew)); exact HO_233000.out))) (Kd.R_lt (by (with_reducible repeat (first | apply Kd.R_alloc | apply Kd.R_drewN | apply Kd.R_drew)); exact HO_233001.out))) (Kd.R_lt (by (with_reducible repeat (first | apply Kd.R_alloc | apply Kd.R_drewN | apply Kd.R_drew)); exact HO_240000.out))) (Kd.R_lt (by (with_reducible repeat (first | apply Kd.R_alloc | apply Kd.R_drewN | apply Kd.R_drew)); exact HO_240001.out))) (Kd.R_lt (by (with_reducible repeat (first | apply Kd.R_alloc | apply Kd.R_drewN | apply Kd.R_drew)); exact HO_248000.out))) (Kd.R_lt (by (with_reducible repeat (first | apply Kd.R_alloc | apply Kd.R_drewN | apply Kd.R_drew)); exact HO_248001.out))) (below_size (by repeat (first | (with_reducible first | exact HB.out | apply below_alloc | apply pw_below_drewN | apply below_drew1 | refine below_set ?_ GE217.out | refine below_set ?_ GE232.out | refine below_set ?_ GE239.out | refine below_set ?_ GE247.out) | exact HB.out))))
            have n8_ := Aside0.mk (blk_below (g := gb217) (o := .cells #[.slice A1_0 l1_0.length c1_0, .slice A1_1 l1_1.length c1_1] 24 (0, 0)) (by (with_reducible repeat (first | refine blk_drewN ?_ _ | refine blk_drew ?_ | refine blk_alloc ?_ _)); exact BK217.out) hb)
            have n9_ := Aside0.mk (blk_below (g := gb232) (o := .cells #[.slice Ao22 t225.length co22, .slice Ao25 t228.length co25] 26 (0, 0)) (by (with_reducible repeat (first | refine blk_drewN ?_ _ | refine blk_drew ?_ | refine blk_alloc ?_ _)); exact BK232.out) hb)
            have n10_ := Aside0.mk (blk_below (g := gb239) (o := .cells #[.slice Ao29 t233.length co29, .slice Ao33 t236.length co33] 26 (0, 0)) (by (with_reducible repeat (first | refine blk_drewN ?_ _ | refine blk_drew ?_ | refine blk_alloc ?_ _)); exact BK239.out) hb)
            have n11_ := Aside0.mk (blk_below (g := gb247) (o := .cells #[.slice Ao36 t240.length co36, .slice Ao41 t243.length co41] 26 (0, 0)) (by (with_reducible repeat (first | refine blk_drewN ?_ _ | refine blk_drew ?_ | refine blk_alloc ?_ _)); exact BK247.out) hb)
            have n12_ := Aside0.mk (below_step (by repeat (first | (with_reducible first | exact HB.out | apply below_alloc | apply pw_below_drewN | apply below_drew1 | refine below_set ?_ GE217.out | refine below_set ?_ GE232.out | refine below_set ?_ GE239.out | refine below_set ?_ GE247.out) | exact HB.out)) hb)
            clear HO_233000
            clear HO_233001
            clear HO_240000
            clear HO_240001
            clear HO_248000
            clear HO_248001
            clear BK217
            clear BK232
            clear BK239
            clear BK247
            clear HB
            have HO_233000 := n0_
            have HO_233001 := n1_
            have HO_240000 := n2_
            have HO_240001 := n3_
            have HO_248000 := n4_
            have HO_248001 := n5_
            have HO251 := n6_
            have HO254 := n7_
            have BK217 := n8_
            have BK232 := n9_
            have BK239 := n10_
            have BK247 := n11_
            have HB := n12_
            clear n0_ n1_ n2_ n3_ n4_ n5_ n6_ n7_ n8_ n9_ n10_ n11_ n12_
            (try clear hb)
            (try clear hb2)
            (try clear hk)
            (try clear hi)
            (try clear ho0)
            (try clear ho1)
            obtain ⟨Ao60, co60, eo60⟩ := Kd.R_slice HO251.out
            (first | subst eo60 | (injection eo60 with f1_ f2_ f3_; have f4_ := f1_.symm; have f5_ := f3_.symm; clear f1_ f2_ f3_; subst f4_; subst f5_))
            obtain ⟨Ao61, co61, eo61⟩ := Kd.R_slice HO254.out
            (first | subst eo61 | (injection eo61 with f1_ f2_ f3_; have f4_ := f1_.symm; have f5_ := f3_.symm; clear f1_ f2_ f3_; subst f4_; subst f5_))
            refine hK.out _ _ ⟨(blk_cell BK239.out 0).trans rfl, (blk_cell BK239.out 1).trans rfl, (blk_cell BK217.out 0).trans rfl, (blk_cell BK217.out 1).trans rfl⟩ (fun hHeld => ?_)
            clear hK K
            refine norm_ (a' := ?_) ?_ ?_
            rotate_left
            · show Act.put _ (some 47) _ = _
              simp only [Act.put, List.setIfInBounds_toArray, List.set_cons_zero, List.set_cons_succ, i64_w, i32_w]
              rfl
            refine one_ (i := 3) (N := some 48) #[true, true, true, true, false] rfl rfl (by kernel_rfl) (by decide) (fun K hK => ?_)
            refine goes_ Try.func19 (by kernel_rfl) rfl #[.agg #[.slice Ao29 t233.length co29, .slice Ao33 t236.length co33], .agg #[.slice Ao60 t249.length co60, .slice Ao61 t252.length co61]] (by rfl) rfl rfl (by (try simp only [List.map_toArray, List.map_cons, List.map_nil]); first | done | rfl | (simp only [List.length_drop, List.length_take]; rfl)) ?_
            with_reducible refine (laws_eqArray.calls kj11 _ _ t233 _ _ t236 _ _ t249 _ _ t252 true _ ?side1 ?side2 ?side3 ?side4 ?side5 ?side6 ?side7 ?side8 A54.out).mono ?_
            (case side1 => repeat (first | exact (Kd.R_reads' HO_240000.out).2.2 | (with_reducible refine Kd.C_alloc ?_ _) | (with_reducible refine Kd.C_drewN ?_ _) | (with_reducible refine Kd.C_drew ?_)))
            (case side2 => exact (Kd.R_reads' HO_240000.out).2.1)
            (case side3 => repeat (first | exact (Kd.R_reads' HO_240001.out).2.2 | (with_reducible refine Kd.C_alloc ?_ _) | (with_reducible refine Kd.C_drewN ?_ _) | (with_reducible refine Kd.C_drew ?_)))
            (case side4 => exact (Kd.R_reads' HO_240001.out).2.1)
            (case side5 => repeat (first | exact (Kd.R_reads' HO251.out).2.2 | (with_reducible refine Kd.C_alloc ?_ _) | (with_reducible refine Kd.C_drewN ?_ _) | (with_reducible refine Kd.C_drew ?_)))
            (case side6 => exact (Kd.R_reads' HO251.out).2.1)
            (case side7 => repeat (first | exact (Kd.R_reads' HO254.out).2.2 | (with_reducible refine Kd.C_alloc ?_ _) | (with_reducible refine Kd.C_drewN ?_ _) | (with_reducible refine Kd.C_drew ?_)))
            (case side8 => exact (Kd.R_reads' HO254.out).2.1)
            rintro e w62 ⟨rfl, hb⟩
            refine ⟨_, rfl, ?_⟩
            have n0_ := Aside0.mk (Kd.R_below (by (with_reducible repeat (first | apply Kd.R_alloc | apply Kd.R_drewN | apply Kd.R_drew)); exact HO_233000.out) hb)
            have n1_ := Aside0.mk (Kd.R_below (by (with_reducible repeat (first | apply Kd.R_alloc | apply Kd.R_drewN | apply Kd.R_drew)); exact HO_233001.out) hb)
            have n2_ := Aside0.mk (Kd.R_below (by (with_reducible repeat (first | apply Kd.R_alloc | apply Kd.R_drewN | apply Kd.R_drew)); exact HO_240000.out) hb)
            have n3_ := Aside0.mk (Kd.R_below (by (with_reducible repeat (first | apply Kd.R_alloc | apply Kd.R_drewN | apply Kd.R_drew)); exact HO_240001.out) hb)
            have n4_ := Aside0.mk (Kd.R_below (by (with_reducible repeat (first | apply Kd.R_alloc | apply Kd.R_drewN | apply Kd.R_drew)); exact HO_248000.out) hb)
            have n5_ := Aside0.mk (Kd.R_below (by (with_reducible repeat (first | apply Kd.R_alloc | apply Kd.R_drewN | apply Kd.R_drew)); exact HO_248001.out) hb)
            have n6_ := Aside0.mk (Kd.R_below (by (with_reducible repeat (first | apply Kd.R_alloc | apply Kd.R_drewN | apply Kd.R_drew)); exact HO251.out) hb)
            have n7_ := Aside0.mk (Kd.R_below (by (with_reducible repeat (first | apply Kd.R_alloc | apply Kd.R_drewN | apply Kd.R_drew)); exact HO254.out) hb)
            have n8_ := Aside0.mk (blk_below (g := gb217) (o := .cells #[.slice A1_0 l1_0.length c1_0, .slice A1_1 l1_1.length c1_1] 24 (0, 0)) (by (with_reducible repeat (first | refine blk_drewN ?_ _ | refine blk_drew ?_ | refine blk_alloc ?_ _)); exact BK217.out) hb)
            have n9_ := Aside0.mk (blk_below (g := gb232) (o := .cells #[.slice Ao22 t225.length co22, .slice Ao25 t228.length co25] 26 (0, 0)) (by (with_reducible repeat (first | refine blk_drewN ?_ _ | refine blk_drew ?_ | refine blk_alloc ?_ _)); exact BK232.out) hb)
            have n10_ := Aside0.mk (blk_below (g := gb239) (o := .cells #[.slice Ao29 t233.length co29, .slice Ao33 t236.length co33] 26 (0, 0)) (by (with_reducible repeat (first | refine blk_drewN ?_ _ | refine blk_drew ?_ | refine blk_alloc ?_ _)); exact BK239.out) hb)
            have n11_ := Aside0.mk (blk_below (g := gb247) (o := .cells #[.slice Ao36 t240.length co36, .slice Ao41 t243.length co41] 26 (0, 0)) (by (with_reducible repeat (first | refine blk_drewN ?_ _ | refine blk_drew ?_ | refine blk_alloc ?_ _)); exact BK247.out) hb)
            have n12_ := Aside0.mk (below_step (by repeat (first | (with_reducible first | exact HB.out | apply below_alloc | apply pw_below_drewN | apply below_drew1 | refine below_set ?_ GE217.out | refine below_set ?_ GE232.out | refine below_set ?_ GE239.out | refine below_set ?_ GE247.out) | exact HB.out)) hb)
            clear HO_233000
            clear HO_233001
            clear HO_240000
            clear HO_240001
            clear HO_248000
            clear HO_248001
            clear HO251
            clear HO254
            clear BK217
            clear BK232
            clear BK239
            clear BK247
            clear HB
            have HO_233000 := n0_
            have HO_233001 := n1_
            have HO_240000 := n2_
            have HO_240001 := n3_
            have HO_248000 := n4_
            have HO_248001 := n5_
            have HO251 := n6_
            have HO254 := n7_
            have BK217 := n8_
            have BK232 := n9_
            have BK239 := n10_
            have BK247 := n11_
            have HB := n12_
            clear n0_ n1_ n2_ n3_ n4_ n5_ n6_ n7_ n8_ n9_ n10_ n11_ n12_
            (try clear hb)
            (try clear hb2)
            (try clear hk)
            (try clear hi)
            refine hK.out _ _ ⟨(blk_cell BK239.out 0).trans rfl, (blk_cell BK239.out 1).trans rfl, (blk_cell BK217.out 0).trans rfl, (blk_cell BK217.out 1).trans rfl⟩ (fun hHeld => ?_)
            clear hK K
            refine norm_ (a' := ?_) ?_ ?_
            rotate_left
            · show Act.put _ (some 48) _ = _
              simp only [Act.put, List.setIfInBounds_toArray, List.set_cons_zero, List.set_cons_succ, i64_w, i32_w]
              rfl
            refine pure_ (i := 4) (N := some 49) (v := ?_) (a' := ?_) #[true, true, true, true, true] rfl rfl (by kernel_rfl) (fun _ _ _ h => h) (Or.inl ⟨by rfl, ?_⟩) ?_ ?_
            rotate_left
            · intro w'
              go_simp
              with_reducible rfl
            rotate_left
            · simp only [Act.put, List.setIfInBounds_toArray, List.set_cons_zero, List.set_cons_succ, i64_w, i32_w]
              rfl
            refine done_ (by kernel_rfl) ?_
            have hnb63 := NB239_217.out
            have hnc63 := NB217_239.out
            have hnb64 := NB239_232.out
            have hnc64 := NB232_239.out
            have hnb65 := NB239_247.out
            have hnc65 := NB247_239.out
            have hcz66_0 : w62.cell? ⟨gb239, 0, none⟩ = some (.slice Ao29 t233.length co29) := (blk_cell BK239.out 0).trans rfl
            have hcz66_1 : w62.cell? ⟨gb239, 1, none⟩ = some (.slice Ao33 t236.length co33) := (blk_cell BK239.out 1).trans rfl
            have hfz66_0 := blk_frozen BK239.out 0
            have hfz66_1 := blk_frozen BK239.out 1
            go_upto_region 14 with (first | ((with_reducible refine gate_callee (f := 20) rfl ?_); refine goesL_ (some 52) rfl rfl Try.func20 (by kernel_rfl) rfl #[.agg #[.slice Ao29 t233.length co29, .slice Ao33 t236.length co33], .int .i64 1] rfl (by (try simp only [List.map_toArray, List.map_cons, List.map_nil]); first | done | rfl | (simp only [List.length_drop, List.length_take]; rfl)) ?_; (with_reducible refine (laws_markArray.calls kj11 (fun k_ => some k_ = (.slice Ao29 t233.length co29 : Value).ownBlock) (.slice Ao29 t233.length co29) t233 (fun k_ => some k_ = (.slice Ao33 t236.length co33 : Value).ownBlock) (.slice Ao33 t236.length co33) t236 1 t256 t257 t258 w _ ?side1 ?side2 ?side3 ?side4 ?side5 A56.out).mono ?_); (case side1 => repeat (first | (with_reducible first | exact HB.out | apply below_alloc | apply pw_below_drewN | apply below_drew1 | refine below_set ?_ GE217.out | refine below_set ?_ GE232.out | refine below_set ?_ GE239.out | refine below_set ?_ GE247.out) | exact HB.out)); (case side2 => exact Kd.R_tight rfl HO_240000.out); (case side3 => exact fun k_ e_ => (HO_240000.out.1 k_ e_.symm).1.1.2.2.1); (case side4 => exact Kd.R_tight rfl HO_240001.out); (case side5 => exact fun k_ e_ => (HO_240001.out.1 k_ e_.symm).1.1.2.2.1); rintro e w67 ⟨rfl, hy0, hy1, hb, hkp⟩; refine ⟨_, rfl, ?_⟩; have n0_ := Aside0.mk (Kd.R_mono (ok' := fun k_ => some k_ ≠ (.slice Ao25 t228.length co25 : Value).ownBlock ∧ some k_ ≠ (.slice Ao29 t233.length co29 : Value).ownBlock ∧ some k_ ≠ (.slice Ao33 t236.length co33 : Value).ownBlock ∧ some k_ ≠ (.slice Ao36 t240.length co36 : Value).ownBlock ∧ some k_ ≠ (.slice Ao41 t243.length co41 : Value).ownBlock ∧ some k_ ≠ (.slice Ao60 t249.length co60 : Value).ownBlock ∧ some k_ ≠ (.slice Ao61 t252.length co61 : Value).ownBlock) (Kd.R_keptB (HO_233000.out) hkp (fun k_ hk_ hs_ => Or.elim hs_ (fun e_ => (hk_.1.1.2.1) e_) (fun e_ => (hk_.1.1.2.2.1) e_))) (fun k_ hk_ => ⟨hk_.1.1.1.1, hk_.1.1.1.2.1, hk_.1.1.1.2.2.1, hk_.1.1.1.2.2.2.1, hk_.1.1.1.2.2.2.2, hk_.1.1.2, hk_.1.2⟩)); have n1_ := Aside0.mk (Kd.R_mono (ok' := fun k_ => some k_ ≠ (.slice Ao22 t225.length co22 : Value).ownBlock ∧ some k_ ≠ (.slice Ao29 t233.length co29 : Value).ownBlock ∧ some k_ ≠ (.slice Ao33 t236.length co33 : Value).ownBlock ∧ some k_ ≠ (.slice Ao36 t240.length co36 : Value).ownBlock ∧ some k_ ≠ (.slice Ao41 t243.length co41 : Value).ownBlock ∧ some k_ ≠ (.slice Ao60 t249.length co60 : Value).ownBlock ∧ some k_ ≠ (.slice Ao61 t252.length co61 : Value).ownBlock) (Kd.R_keptB (HO_233001.out) hkp (fun k_ hk_ hs_ => Or.elim hs_ (fun e_ => (hk_.1.1.2.1) e_) (fun e_ => (hk_.1.1.2.2.1) e_))) (fun k_ hk_ => ⟨hk_.1.1.1.1, hk_.1.1.1.2.1, hk_.1.1.1.2.2.1, hk_.1.1.1.2.2.2.1, hk_.1.1.1.2.2.2.2, hk_.1.1.2, hk_.1.2⟩)); have n2_ := Aside0.mk (Kd.R_reok rfl hy0 (fun k_ e_ => HO_240000.out.1 k_ e_)); have n3_ := Aside0.mk (Kd.R_reok rfl hy1 (fun k_ e_ => HO_240001.out.1 k_ e_)); have n4_ := Aside0.mk (Kd.R_mono (ok' := fun k_ => some k_ ≠ (.slice Ao22 t225.length co22 : Value).ownBlock ∧ some k_ ≠ (.slice Ao25 t228.length co25 : Value).ownBlock ∧ some k_ ≠ (.slice Ao29 t233.length co29 : Value).ownBlock ∧ some k_ ≠ (.slice Ao33 t236.length co33 : Value).ownBlock ∧ some k_ ≠ (.slice Ao41 t243.length co41 : Value).ownBlock ∧ some k_ ≠ (.slice Ao60 t249.length co60 : Value).ownBlock ∧ some k_ ≠ (.slice Ao61 t252.length co61 : Value).ownBlock) (Kd.R_keptB (HO_248000.out) hkp (fun k_ hk_ hs_ => Or.elim hs_ (fun e_ => (hk_.1.1.2.2.1) e_) (fun e_ => (hk_.1.1.2.2.2.1) e_))) (fun k_ hk_ => ⟨hk_.1.1.1.1, hk_.1.1.1.2.1, hk_.1.1.1.2.2.1, hk_.1.1.1.2.2.2.1, hk_.1.1.1.2.2.2.2, hk_.1.1.2, hk_.1.2⟩)); have n5_ := Aside0.mk (Kd.R_mono (ok' := fun k_ => some k_ ≠ (.slice Ao22 t225.length co22 : Value).ownBlock ∧ some k_ ≠ (.slice Ao25 t228.length co25 : Value).ownBlock ∧ some k_ ≠ (.slice Ao29 t233.length co29 : Value).ownBlock ∧ some k_ ≠ (.slice Ao33 t236.length co33 : Value).ownBlock ∧ some k_ ≠ (.slice Ao36 t240.length co36 : Value).ownBlock ∧ some k_ ≠ (.slice Ao60 t249.length co60 : Value).ownBlock ∧ some k_ ≠ (.slice Ao61 t252.length co61 : Value).ownBlock) (Kd.R_keptB (HO_248001.out) hkp (fun k_ hk_ hs_ => Or.elim hs_ (fun e_ => (hk_.1.1.2.2.1) e_) (fun e_ => (hk_.1.1.2.2.2.1) e_))) (fun k_ hk_ => ⟨hk_.1.1.1.1, hk_.1.1.1.2.1, hk_.1.1.1.2.2.1, hk_.1.1.1.2.2.2.1, hk_.1.1.1.2.2.2.2, hk_.1.1.2, hk_.1.2⟩)); have n6_ := Aside0.mk (blk_kept (by (with_reducible repeat (first | refine blk_drewN ?_ _ | refine blk_drew ?_ | refine blk_alloc ?_ _)); exact BK217.out) hkp (fun hs_ => Or.elim hs_ (fun e_ => (fun e_ => (Kd.R_ne HO_240000.out BK217.out (by decide)) e_) e_) (fun e_ => (fun e_ => (Kd.R_ne HO_240001.out BK217.out (by decide)) e_) e_))); have n7_ := Aside0.mk (blk_kept (by (with_reducible repeat (first | refine blk_drewN ?_ _ | refine blk_drew ?_ | refine blk_alloc ?_ _)); exact BK232.out) hkp (fun hs_ => Or.elim hs_ (fun e_ => (fun e_ => (Kd.R_ne HO_240000.out BK232.out (by decide)) e_) e_) (fun e_ => (fun e_ => (Kd.R_ne HO_240001.out BK232.out (by decide)) e_) e_))); have n8_ := Aside0.mk (blk_kept (by (with_reducible repeat (first | refine blk_drewN ?_ _ | refine blk_drew ?_ | refine blk_alloc ?_ _)); exact BK239.out) hkp (fun hs_ => Or.elim hs_ (fun e_ => (fun e_ => (Kd.R_ne HO_240000.out BK239.out (by decide)) e_) e_) (fun e_ => (fun e_ => (Kd.R_ne HO_240001.out BK239.out (by decide)) e_) e_))); have n9_ := Aside0.mk (blk_kept (by (with_reducible repeat (first | refine blk_drewN ?_ _ | refine blk_drew ?_ | refine blk_alloc ?_ _)); exact BK247.out) hkp (fun hs_ => Or.elim hs_ (fun e_ => (fun e_ => (Kd.R_ne HO_240000.out BK247.out (by decide)) e_) e_) (fun e_ => (fun e_ => (Kd.R_ne HO_240001.out BK247.out (by decide)) e_) e_))); have n10_ := Aside0.mk (Kd.R_mono (ok' := fun k_ => some k_ ≠ (.slice Ao22 t225.length co22 : Value).ownBlock ∧ some k_ ≠ (.slice Ao25 t228.length co25 : Value).ownBlock ∧ some k_ ≠ (.slice Ao29 t233.length co29 : Value).ownBlock ∧ some k_ ≠ (.slice Ao33 t236.length co33 : Value).ownBlock ∧ some k_ ≠ (.slice Ao36 t240.length co36 : Value).ownBlock ∧ some k_ ≠ (.slice Ao41 t243.length co41 : Value).ownBlock ∧ some k_ ≠ (.slice Ao61 t252.length co61 : Value).ownBlock) (Kd.R_keptB (HO251.out) hkp (fun k_ hk_ hs_ => Or.elim hs_ (fun e_ => (hk_.1.1.1.2) e_) (fun e_ => (hk_.1.1.2) e_))) (fun k_ hk_ => ⟨hk_.1.1.1.1.1.1.2, hk_.1.1.1.1.1.2, hk_.1.1.1.1.2, hk_.1.1.1.2, hk_.1.1.2, hk_.1.2, hk_.1.1.1.1.1.1.1⟩)); have n11_ := Aside0.mk (Kd.R_mono (ok' := fun k_ => some k_ ≠ (.slice Ao22 t225.length co22 : Value).ownBlock ∧ some k_ ≠ (.slice Ao25 t228.length co25 : Value).ownBlock ∧ some k_ ≠ (.slice Ao29 t233.length co29 : Value).ownBlock ∧ some k_ ≠ (.slice Ao33 t236.length co33 : Value).ownBlock ∧ some k_ ≠ (.slice Ao36 t240.length co36 : Value).ownBlock ∧ some k_ ≠ (.slice Ao41 t243.length co41 : Value).ownBlock ∧ some k_ ≠ (.slice Ao60 t249.length co60 : Value).ownBlock) (Kd.R_keptB (HO254.out) hkp (fun k_ hk_ hs_ => Or.elim hs_ (fun e_ => (hk_.1.1.1.2) e_) (fun e_ => (hk_.1.1.2) e_))) (fun k_ hk_ => ⟨hk_.1.1.1.1.1.1.2, hk_.1.1.1.1.1.2, hk_.1.1.1.1.2, hk_.1.1.1.2, hk_.1.1.2, hk_.1.2, hk_.1.1.1.1.1.1.1⟩)); have n12_ := Aside0.mk (hb); clear HO_233000; clear HO_233001; clear HO_240000; clear HO_240001; clear HO_248000; clear HO_248001; clear BK217; clear BK232; clear BK239; clear BK247; clear HO251; clear HO254; clear HB; have HO_233000 := n0_; have HO_233001 := n1_; have HO_240000 := n2_; have HO_240001 := n3_; have HO_248000 := n4_; have HO_248001 := n5_; have BK217 := n6_; have BK232 := n7_; have BK239 := n8_; have BK247 := n9_; have HO251 := n10_; have HO254 := n11_; have HB := n12_; clear n0_ n1_ n2_ n3_ n4_ n5_ n6_ n7_ n8_ n9_ n10_ n11_ n12_; (try clear hb); (try clear hkp); (try clear hy0); (try clear hy1)))
            (try simp only [Act.put, List.setIfInBounds_toArray, List.set_cons_zero, List.set_cons_succ])
            go_cut [65] (fun v65 wc => ∃ (kq : Nat) (x65_56 : Bool), v65 = .bool x65_56 ∧ Aside0 (laws_FnExactEachOne.j1 kq a0 t231 x65_56 l1_0 l1_1 t225 t228 t240 t243 = some r) ∧ Aside0 (kq ≤ kj11) ∧ Aside0 (Kd.R (Kd.int .i64) 3 wc w.heap.size (fun k_ => some k_ ≠ ((.slice Ao25 t228.length co25) : Value).ownBlock ∧ some k_ ≠ ((.slice Ao29 t233.length co29) : Value).ownBlock ∧ some k_ ≠ ((.slice Ao33 t236.length co33) : Value).ownBlock ∧ some k_ ≠ ((.slice Ao36 t240.length co36) : Value).ownBlock ∧ some k_ ≠ ((.slice Ao41 t243.length co41) : Value).ownBlock) (.slice Ao22 t225.length co22) t225) ∧ Aside0 (Kd.R (Kd.int .i64) 3 wc w.heap.size (fun k_ => some k_ ≠ ((.slice Ao22 t225.length co22) : Value).ownBlock ∧ some k_ ≠ ((.slice Ao29 t233.length co29) : Value).ownBlock ∧ some k_ ≠ ((.slice Ao33 t236.length co33) : Value).ownBlock ∧ some k_ ≠ ((.slice Ao36 t240.length co36) : Value).ownBlock ∧ some k_ ≠ ((.slice Ao41 t243.length co41) : Value).ownBlock) (.slice Ao25 t228.length co25) t228) ∧ Aside0 (Kd.R (Kd.int .i64) 3 wc w.heap.size (fun k_ => some k_ ≠ ((.slice Ao22 t225.length co22) : Value).ownBlock ∧ some k_ ≠ ((.slice Ao25 t228.length co25) : Value).ownBlock ∧ some k_ ≠ ((.slice Ao33 t236.length co33) : Value).ownBlock ∧ some k_ ≠ ((.slice Ao36 t240.length co36) : Value).ownBlock ∧ some k_ ≠ ((.slice Ao41 t243.length co41) : Value).ownBlock) (.slice Ao29 t233.length co29) t257) ∧ Aside0 (Kd.R (Kd.int .i64) 3 wc w.heap.size (fun k_ => some k_ ≠ ((.slice Ao22 t225.length co22) : Value).ownBlock ∧ some k_ ≠ ((.slice Ao25 t228.length co25) : Value).ownBlock ∧ some k_ ≠ ((.slice Ao29 t233.length co29) : Value).ownBlock ∧ some k_ ≠ ((.slice Ao36 t240.length co36) : Value).ownBlock ∧ some k_ ≠ ((.slice Ao41 t243.length co41) : Value).ownBlock) (.slice Ao33 t236.length co33) t258) ∧ Aside0 (Kd.R (Kd.int .i64) 3 wc w.heap.size (fun k_ => some k_ ≠ ((.slice Ao22 t225.length co22) : Value).ownBlock ∧ some k_ ≠ ((.slice Ao25 t228.length co25) : Value).ownBlock ∧ some k_ ≠ ((.slice Ao29 t233.length co29) : Value).ownBlock ∧ some k_ ≠ ((.slice Ao33 t236.length co33) : Value).ownBlock ∧ some k_ ≠ ((.slice Ao41 t243.length co41) : Value).ownBlock) (.slice Ao36 t240.length co36) t240) ∧ Aside0 (Kd.R (Kd.int .i64) 3 wc w.heap.size (fun k_ => some k_ ≠ ((.slice Ao22 t225.length co22) : Value).ownBlock ∧ some k_ ≠ ((.slice Ao25 t228.length co25) : Value).ownBlock ∧ some k_ ≠ ((.slice Ao29 t233.length co29) : Value).ownBlock ∧ some k_ ≠ ((.slice Ao33 t236.length co33) : Value).ownBlock ∧ some k_ ≠ ((.slice Ao36 t240.length co36) : Value).ownBlock) (.slice Ao41 t243.length co41) t243) ∧ Aside0 (wc.heap[gb217]? = some (.cells #[(.slice A1_0 l1_0.length c1_0), (.slice A1_1 l1_1.length c1_1)] 24 (0, 0))) ∧ Aside0 (wc.heap[gb232]? = some (.cells #[(.slice Ao22 t225.length co22), (.slice Ao25 t228.length co25)] 26 (0, 0))) ∧ Aside0 (wc.heap[gb239]? = some (.cells #[(.slice Ao29 t233.length co29), (.slice Ao33 t236.length co33)] 26 (0, 0))) ∧ Aside0 (wc.heap[gb247]? = some (.cells #[(.slice Ao36 t240.length co36), (.slice Ao41 t243.length co41)] 26 (0, 0))) ∧ Aside0 (Below w.heap.size w wc))
            case first =>
              have H := HC57.out
              clear HC57
              by_cases c68 : t256 < 0
              · rw [if_pos c68] at H
                have c68b0 : decide (t256 < 0) = true := decide_eq_true c68
                clear c68
                (first | rw [c68b0] | (simp only [i64_w, i32_w]; rw [c68b0]) | skip)
                have hz_ : ∀ kz, laws_FnExactEachOne.j1 kz a0 t231 true l1_0 l1_1 t225 t228 t240 t243 = some r → r = false := by intro kz hz; cases kz with | zero => exact absurd hz (by simp [laws_FnExactEachOne.j1]) | succ kz => simp only [laws_FnExactEachOne.j1] at hz; first | (rw [if_pos rfl] at hz; exact (Option.some.inj hz).symm) | (simp at hz; exact hz.symm) | (simp at hz; exact hz)
                exact absurd (HT.out.symm.trans (hz_ _ H)) (by decide)
              · rw [if_neg c68] at H
                have c68b0 : decide (t256 < 0) = false := decide_eq_false c68
                clear c68
                (first | rw [c68b0] | (simp only [i64_w, i32_w]; rw [c68b0]) | skip)
                replace H := Option.bind_eq_some_iff.mp H
                obtain ⟨t259, A690, H⟩ := H
                replace H : (if t259 = true then (laws_FnExactEachOne.j1 kj11 a0 t231 (t246 != t231) l1_0 l1_1 t225 t228 t240 t243) else (laws_FnExactEachOne.j1 kj11 a0 t231 true l1_0 l1_1 t225 t228 t240 t243)) = some r := H
                have A69 := Aside0.mk A690
                clear A690
                by_cases c70 : t259 = true
                · subst c70
                  have H1 : (laws_FnExactEachOne.j1 kj11 a0 t231 (t246 != t231) l1_0 l1_1 t225 t228 t240 t243) = some r := by rw [if_pos rfl] at H; exact H
                  clear H
                  have H := H1
                  clear H1
                  have H' := Aside0.mk H
                  clear H
                  have hnb71 := NB247_217.out
                  have hnc71 := NB217_247.out
                  have hnb72 := NB247_232.out
                  have hnc72 := NB232_247.out
                  have hnb73 := NB247_239.out
                  have hnc73 := NB239_247.out
                  have hcz74_0 : w67.cell? ⟨gb247, 0, none⟩ = some (.slice Ao36 t240.length co36) := (blk_cell BK247.out 0).trans rfl
                  have hcz74_1 : w67.cell? ⟨gb247, 1, none⟩ = some (.slice Ao41 t243.length co41) := (blk_cell BK247.out 1).trans rfl
                  have hfz74_0 := blk_frozen BK247.out 0
                  have hfz74_1 := blk_frozen BK247.out 1
                  have hnb75 := NB232_217.out
                  have hnc75 := NB217_232.out
                  have hnb76 := NB232_239.out
                  have hnc76 := NB239_232.out
                  have hcz77_0 : w67.cell? ⟨gb232, 0, none⟩ = some (.slice Ao22 t225.length co22) := (blk_cell BK232.out 0).trans rfl
                  have hcz77_1 : w67.cell? ⟨gb232, 1, none⟩ = some (.slice Ao25 t228.length co25) := (blk_cell BK232.out 1).trans rfl
                  have hfz77_0 := blk_frozen BK232.out 0
                  have hfz77_1 := blk_frozen BK232.out 1
                  go_wp2_with (first | (go_at_call 19; (repeat rw [i64_w]); (with_reducible refine (laws_eqArray.calls kj11 _ _ t240 _ _ t243 _ _ t225 _ _ t228 true _ ?side1 ?side2 ?side3 ?side4 ?side5 ?side6 ?side7 ?side8 A69.out).mono ?_); (case side1 => repeat (first | exact (Kd.R_reads' HO_248000.out).2.2 | (with_reducible refine Kd.C_alloc ?_ _) | (with_reducible refine Kd.C_drewN ?_ _) | (with_reducible refine Kd.C_drew ?_))); (case side2 => exact (Kd.R_reads' HO_248000.out).2.1); (case side3 => repeat (first | exact (Kd.R_reads' HO_248001.out).2.2 | (with_reducible refine Kd.C_alloc ?_ _) | (with_reducible refine Kd.C_drewN ?_ _) | (with_reducible refine Kd.C_drew ?_))); (case side4 => exact (Kd.R_reads' HO_248001.out).2.1); (case side5 => repeat (first | exact (Kd.R_reads' HO_233000.out).2.2 | (with_reducible refine Kd.C_alloc ?_ _) | (with_reducible refine Kd.C_drewN ?_ _) | (with_reducible refine Kd.C_drew ?_))); (case side6 => exact (Kd.R_reads' HO_233000.out).2.1); (case side7 => repeat (first | exact (Kd.R_reads' HO_233001.out).2.2 | (with_reducible refine Kd.C_alloc ?_ _) | (with_reducible refine Kd.C_drewN ?_ _) | (with_reducible refine Kd.C_drew ?_))); (case side8 => exact (Kd.R_reads' HO_233001.out).2.1); rintro e w78 ⟨rfl, hb⟩; have n0_ := Aside0.mk (Kd.R_below (by (with_reducible repeat (first | apply Kd.R_alloc | apply Kd.R_drewN | apply Kd.R_drew)); exact HO_233000.out) hb); have n1_ := Aside0.mk (Kd.R_below (by (with_reducible repeat (first | apply Kd.R_alloc | apply Kd.R_drewN | apply Kd.R_drew)); exact HO_233001.out) hb); have n2_ := Aside0.mk (Kd.R_below (by (with_reducible repeat (first | apply Kd.R_alloc | apply Kd.R_drewN | apply Kd.R_drew)); exact HO_240000.out) hb); have n3_ := Aside0.mk (Kd.R_below (by (with_reducible repeat (first | apply Kd.R_alloc | apply Kd.R_drewN | apply Kd.R_drew)); exact HO_240001.out) hb); have n4_ := Aside0.mk (Kd.R_below (by (with_reducible repeat (first | apply Kd.R_alloc | apply Kd.R_drewN | apply Kd.R_drew)); exact HO_248000.out) hb); have n5_ := Aside0.mk (Kd.R_below (by (with_reducible repeat (first | apply Kd.R_alloc | apply Kd.R_drewN | apply Kd.R_drew)); exact HO_248001.out) hb); have n6_ := Aside0.mk (Kd.R_below (by (with_reducible repeat (first | apply Kd.R_alloc | apply Kd.R_drewN | apply Kd.R_drew)); exact HO251.out) hb); have n7_ := Aside0.mk (Kd.R_below (by (with_reducible repeat (first | apply Kd.R_alloc | apply Kd.R_drewN | apply Kd.R_drew)); exact HO254.out) hb); have n8_ := Aside0.mk (blk_below (g := gb217) (o := .cells #[.slice A1_0 l1_0.length c1_0, .slice A1_1 l1_1.length c1_1] 24 (0, 0)) (by (with_reducible repeat (first | refine blk_drewN ?_ _ | refine blk_drew ?_ | refine blk_alloc ?_ _)); exact BK217.out) hb); have n9_ := Aside0.mk (blk_below (g := gb232) (o := .cells #[.slice Ao22 t225.length co22, .slice Ao25 t228.length co25] 26 (0, 0)) (by (with_reducible repeat (first | refine blk_drewN ?_ _ | refine blk_drew ?_ | refine blk_alloc ?_ _)); exact BK232.out) hb); have n10_ := Aside0.mk (blk_below (g := gb239) (o := .cells #[.slice Ao29 t233.length co29, .slice Ao33 t236.length co33] 26 (0, 0)) (by (with_reducible repeat (first | refine blk_drewN ?_ _ | refine blk_drew ?_ | refine blk_alloc ?_ _)); exact BK239.out) hb); have n11_ := Aside0.mk (blk_below (g := gb247) (o := .cells #[.slice Ao36 t240.length co36, .slice Ao41 t243.length co41] 26 (0, 0)) (by (with_reducible repeat (first | refine blk_drewN ?_ _ | refine blk_drew ?_ | refine blk_alloc ?_ _)); exact BK247.out) hb); have n12_ := Aside0.mk (below_step (by repeat (first | (with_reducible first | exact HB.out | apply below_alloc | apply pw_below_drewN | apply below_drew1 | refine below_set ?_ GE217.out | refine below_set ?_ GE232.out | refine below_set ?_ GE239.out | refine below_set ?_ GE247.out) | exact HB.out)) hb); clear HO_233000; clear HO_233001; clear HO_240000; clear HO_240001; clear HO_248000; clear HO_248001; clear HO251; clear HO254; clear BK217; clear BK232; clear BK239; clear BK247; clear HB; have HO_233000 := n0_; have HO_233001 := n1_; have HO_240000 := n2_; have HO_240001 := n3_; have HO_248000 := n4_; have HO_248001 := n5_; have HO251 := n6_; have HO254 := n7_; have BK217 := n8_; have BK232 := n9_; have BK239 := n10_; have BK247 := n11_; have HB := n12_; clear n0_ n1_ n2_ n3_ n4_ n5_ n6_ n7_ n8_ n9_ n10_ n11_ n12_; (try clear hb); (try clear hb2); (try clear hk); (try clear hi)))
                  go_meet
                  case rel => exact ⟨_, ((t246 != t231)), (by first | rfl | (simp; done) | (simp [*]; done)), H', ⟨by have := HJ11.out; first | omega | exact Nat.le_refl _⟩, ⟨by (with_reducible repeat (first | apply Kd.R_alloc | apply Kd.R_drewN | apply Kd.R_drew)); exact Kd.R_mono HO_233000.out (fun _ hk => ⟨hk.1, ⟨hk.2.1, ⟨hk.2.2.1, ⟨hk.2.2.2.1, hk.2.2.2.2.1⟩⟩⟩⟩)⟩, ⟨by (with_reducible repeat (first | apply Kd.R_alloc | apply Kd.R_drewN | apply Kd.R_drew)); exact Kd.R_mono HO_233001.out (fun _ hk => ⟨hk.1, ⟨hk.2.1, ⟨hk.2.2.1, ⟨hk.2.2.2.1, hk.2.2.2.2.1⟩⟩⟩⟩)⟩, ⟨by (with_reducible repeat (first | apply Kd.R_alloc | apply Kd.R_drewN | apply Kd.R_drew)); exact Kd.R_mono HO_240000.out (fun _ hk => ⟨hk.1.1.1, ⟨hk.1.1.2.1, ⟨hk.1.1.2.2.1, ⟨hk.1.1.2.2.2.1, hk.1.1.2.2.2.2⟩⟩⟩⟩)⟩, ⟨by (with_reducible repeat (first | apply Kd.R_alloc | apply Kd.R_drewN | apply Kd.R_drew)); exact Kd.R_mono HO_240001.out (fun _ hk => ⟨hk.1.1.1, ⟨hk.1.1.2.1, ⟨hk.1.1.2.2.1, ⟨hk.1.1.2.2.2.1, hk.1.1.2.2.2.2⟩⟩⟩⟩)⟩, ⟨by (with_reducible repeat (first | apply Kd.R_alloc | apply Kd.R_drewN | apply Kd.R_drew)); exact Kd.R_mono HO_248000.out (fun _ hk => ⟨hk.1, ⟨hk.2.1, ⟨hk.2.2.1, ⟨hk.2.2.2.1, hk.2.2.2.2.1⟩⟩⟩⟩)⟩, ⟨by (with_reducible repeat (first | apply Kd.R_alloc | apply Kd.R_drewN | apply Kd.R_drew)); exact Kd.R_mono HO_248001.out (fun _ hk => ⟨hk.1, ⟨hk.2.1, ⟨hk.2.2.1, ⟨hk.2.2.2.1, hk.2.2.2.2.1⟩⟩⟩⟩)⟩, ⟨by (with_reducible repeat (first | refine blk_drewN ?_ _ | refine blk_drew ?_ | refine blk_alloc ?_ _)); exact BK217.out⟩, ⟨by (with_reducible repeat (first | refine blk_drewN ?_ _ | refine blk_drew ?_ | refine blk_alloc ?_ _)); exact BK232.out⟩, ⟨by (with_reducible repeat (first | refine blk_drewN ?_ _ | refine blk_drew ?_ | refine blk_alloc ?_ _)); exact BK239.out⟩, ⟨by (with_reducible repeat (first | refine blk_drewN ?_ _ | refine blk_drew ?_ | refine blk_alloc ?_ _)); exact BK247.out⟩, ⟨by repeat (first | (with_reducible first | exact HB.out | apply below_alloc | apply pw_below_drewN | apply below_drew1 | refine below_set ?_ GE217.out | refine below_set ?_ GE232.out | refine below_set ?_ GE239.out | refine below_set ?_ GE247.out) | exact HB.out)⟩⟩
                · replace c70 := Bool.eq_false_iff.mpr c70
                  subst c70
                  have H1 : (laws_FnExactEachOne.j1 kj11 a0 t231 true l1_0 l1_1 t225 t228 t240 t243) = some r := by rw [if_neg (show ¬ (false = true) by decide)] at H; exact H
                  clear H
                  have H := H1
                  clear H1
                  have hz_ : ∀ kz, laws_FnExactEachOne.j1 kz a0 t231 true l1_0 l1_1 t225 t228 t240 t243 = some r → r = false := by intro kz hz; cases kz with | zero => exact absurd hz (by simp [laws_FnExactEachOne.j1]) | succ kz => simp only [laws_FnExactEachOne.j1] at hz; first | (rw [if_pos rfl] at hz; exact (Option.some.inj hz).symm) | (simp at hz; exact hz.symm) | (simp at hz; exact hz)
                  exact absurd (HT.out.symm.trans (hz_ _ H)) (by decide)
            case rest =>
              clear HC57
              try clear c1
              try clear c2
              try clear p2
              try clear c3
              try clear c4
              try clear c4b0
              try clear c5
              try clear c6
              try clear c7
              try clear c13
              try clear c15
              try clear c17
              try clear c19
              try clear c20
              try clear c23
              try clear c30
              try clear c31
              try clear c37
              try clear c38
              try clear c39
              try clear c43
              try clear c44
              try clear c45
              try clear c46
              try clear c48
              try clear c49
              try clear c52
              try clear c53
              try clear c55
              try clear c63
              try clear c64
              try clear c65
              try clear c68
              try clear c68b0
              try clear c70
              try clear c71
              try clear c72
              try clear c73
              try clear c75
              try clear c76
              try clear hcz14_0
              try clear hcz14_1
              try clear hcz16_0
              try clear hcz16_1
              try clear hcz24_0
              try clear hcz24_1
              try clear hcz26_0
              try clear hcz26_1
              try clear hcz32_0
              try clear hcz32_1
              try clear hcz40_0
              try clear hcz40_1
              try clear hcz47_0
              try clear hcz47_1
              try clear hcz50_0
              try clear hcz50_1
              try clear hcz66_0
              try clear hcz66_1
              try clear hcz6_0
              try clear hcz6_1
              try clear hcz74_0
              try clear hcz74_1
              try clear hcz77_0
              try clear hcz77_1
              try clear hfz14_0
              try clear hfz14_1
              try clear hfz16_0
              try clear hfz16_1
              try clear hfz24_0
              try clear hfz24_1
              try clear hfz26_0
              try clear hfz26_1
              try clear hfz32_0
              try clear hfz32_1
              try clear hfz40_0
              try clear hfz40_1
              try clear hfz47_0
              try clear hfz47_1
              try clear hfz50_0
              try clear hfz50_1
              try clear hfz66_0
              try clear hfz66_1
              try clear hfz6_0
              try clear hfz6_1
              try clear hfz74_0
              try clear hfz74_1
              try clear hfz77_0
              try clear hfz77_1
              try clear p2
              obtain ⟨kq, x65_56, rfl, HA, HJ56, HO_233000, HO_233001, HO_240000, HO_240001, HO_248000, HO_248001, BK217, BK232, BK239, BK247, HB⟩ := hcut
              have hl240000_56 := (Kd.R_reads' HO_240000.out).1
              rw [hl240000_56] at HO_240000
              (try simp only [hl240000_56])
              (try simp only [hl240000_56] at BK217)
              (try simp only [hl240000_56] at BK232)
              (try simp only [hl240000_56] at BK239)
              (try simp only [hl240000_56] at BK247)
              (try simp only [hl240000_56] at HO_233000)
              (try simp only [hl240000_56] at HO_233001)
              (try simp only [hl240000_56] at HO_240001)
              (try simp only [hl240000_56] at HO_248000)
              (try simp only [hl240000_56] at HO_248001)
              have hl240001_56 := (Kd.R_reads' HO_240001.out).1
              rw [hl240001_56] at HO_240001
              (try simp only [hl240001_56])
              (try simp only [hl240001_56] at BK217)
              (try simp only [hl240001_56] at BK232)
              (try simp only [hl240001_56] at BK239)
              (try simp only [hl240001_56] at BK247)
              (try simp only [hl240001_56] at HO_233000)
              (try simp only [hl240001_56] at HO_233001)
              (try simp only [hl240001_56] at HO_240000)
              (try simp only [hl240001_56] at HO_248000)
              (try simp only [hl240001_56] at HO_248001)
              cases kq with
              | zero => exact absurd HA.out (by simp [laws_FnExactEachOne.j1])
              | succ kj56 =>
                have H := HA.out
                clear HA
                simp only [laws_FnExactEachOne.j1] at H
                by_cases c79 : x65_56 = true
                · subst c79
                  have H1 : (some false) = some r := by rw [if_pos rfl] at H; exact H
                  clear H
                  have H := H1
                  clear H1
                  obtain rfl := Option.some.inj H
                  exact absurd HT.out (by decide)
                · replace c79 := Bool.eq_false_iff.mpr c79
                  subst c79
                  have H1 : ((laws_markArray.f kj56 t240 t243 1).bind fun bt260 => ((laws_heldArray.f kj56 bt260.2.1 bt260.2.2 1).bind fun t263 => (if t263 < 0 then (some false) else (if t263 = bt260.1 then ((laws_toArray.f kj56 l1_0 l1_1).bind fun bt264 => ((impl_EachOne.f kj56 a0 bt264.1 bt264.2).bind fun bt270 => ((laws_eqArray.f kj56 bt270.1 bt270.2.1 t225 t228).bind fun t278 => (if t278 = true then (laws_FnExactEachOne.j2 kj56 bt260.1 (bt270.2.2 != t231) bt260.2.1 bt260.2.2) else (laws_FnExactEachOne.j2 kj56 bt260.1 true bt260.2.1 bt260.2.2))))) else (some false))))) = some r := by rw [if_neg (show ¬ (false = true) by decide)] at H; exact H
                  clear H
                  have H := H1
                  clear H1
                  replace H := Option.bind_eq_some_iff.mp H
                  obtain ⟨⟨t260, t261, t262⟩, A800, H⟩ := H
                  replace H : ((laws_heldArray.f kj56 t261 t262 1).bind fun t263 => (if t263 < 0 then (some false) else (if t263 = t260 then ((laws_toArray.f kj56 l1_0 l1_1).bind fun bt264 => ((impl_EachOne.f kj56 a0 bt264.1 bt264.2).bind fun bt270 => ((laws_eqArray.f kj56 bt270.1 bt270.2.1 t225 t228).bind fun t278 => (if t278 = true then (laws_FnExactEachOne.j2 kj56 t260 (bt270.2.2 != t231) t261 t262) else (laws_FnExactEachOne.j2 kj56 t260 true t261 t262))))) else (some false)))) = some r := H
                  have A80 := Aside0.mk A800
                  clear A800
                  replace H := Option.bind_eq_some_iff.mp H
                  obtain ⟨t263, A810, H⟩ := H
                  replace H : (if t263 < 0 then (some false) else (if t263 = t260 then ((laws_toArray.f kj56 l1_0 l1_1).bind fun bt264 => ((impl_EachOne.f kj56 a0 bt264.1 bt264.2).bind fun bt270 => ((laws_eqArray.f kj56 bt270.1 bt270.2.1 t225 t228).bind fun t278 => (if t278 = true then (laws_FnExactEachOne.j2 kj56 t260 (bt270.2.2 != t231) t261 t262) else (laws_FnExactEachOne.j2 kj56 t260 true t261 t262))))) else (some false))) = some r := H
                  have A81 := Aside0.mk A810
                  clear A810
                  by_cases c82 : t263 < 0
                  · rw [if_pos c82] at H
                    have c82b0 : decide (t263 < 0) = true := decide_eq_true c82
                    clear c82
                    obtain rfl := Option.some.inj H
                    exact absurd HT.out (by decide)
                  · rw [if_neg c82] at H
                    have c82b0 : decide (t263 < 0) = false := decide_eq_false c82
                    clear c82
                    by_cases c83 : t263 = t260
                    · rw [if_pos c83] at H
                      have c83b0 : (t263 == t260) = true := beq_iff_eq.mpr c83
                      have c83b1 : (t263 != t260) = false := bne_eq_false_iff_eq.mpr c83
                      clear c83
                      replace H := Option.bind_eq_some_iff.mp H
                      obtain ⟨⟨t264, t267⟩, A840, H⟩ := H
                      replace H : ((impl_EachOne.f kj56 a0 t264 t267).bind fun bt270 => ((laws_eqArray.f kj56 bt270.1 bt270.2.1 t225 t228).bind fun t278 => (if t278 = true then (laws_FnExactEachOne.j2 kj56 t260 (bt270.2.2 != t231) t261 t262) else (laws_FnExactEachOne.j2 kj56 t260 true t261 t262)))) = some r := H
                      have A84 := Aside0.mk A840
                      clear A840
                      replace H := Option.bind_eq_some_iff.mp H
                      obtain ⟨⟨t270, t273, t276⟩, A850, H⟩ := H
                      replace H : ((laws_eqArray.f kj56 t270 t273 t225 t228).bind fun t278 => (if t278 = true then (laws_FnExactEachOne.j2 kj56 t260 (t276 != t231) t261 t262) else (laws_FnExactEachOne.j2 kj56 t260 true t261 t262))) = some r := H
                      have A85 := Aside0.mk A850
                      clear A850
                      have HC86 := Aside0.mk H
                      clear H
                      have hnb87 := NB247_217.out
                      have hnc87 := NB217_247.out
                      have hnb88 := NB247_232.out
                      have hnc88 := NB232_247.out
                      have hnb89 := NB247_239.out
                      have hnc89 := NB239_247.out
                      have hcz90_0 : wc.cell? ⟨gb247, 0, none⟩ = some (.slice Ao36 t240.length co36) := (blk_cell BK247.out 0).trans rfl
                      have hcz90_1 : wc.cell? ⟨gb247, 1, none⟩ = some (.slice Ao41 t243.length co41) := (blk_cell BK247.out 1).trans rfl
                      have hfz90_0 := blk_frozen BK247.out 0
                      have hfz90_1 := blk_frozen BK247.out 1
                      go_upto_region 25 with (first | ((with_reducible refine gate_callee (f := 20) rfl ?_); refine goesL_ (some 68) rfl rfl Try.func20 (by kernel_rfl) rfl #[.agg #[.slice Ao36 t240.length co36, .slice Ao41 t243.length co41], .int .i64 1] rfl (by (try simp only [List.map_toArray, List.map_cons, List.map_nil]); first | done | rfl | (simp only [List.length_drop, List.length_take]; rfl)) ?_; (with_reducible refine (laws_markArray.calls kj56 (fun k_ => some k_ = (.slice Ao36 t240.length co36 : Value).ownBlock) (.slice Ao36 t240.length co36) t240 (fun k_ => some k_ = (.slice Ao41 t243.length co41 : Value).ownBlock) (.slice Ao41 t243.length co41) t243 1 t260 t261 t262 w _ ?side1 ?side2 ?side3 ?side4 ?side5 A80.out).mono ?_); (case side1 => repeat (first | (with_reducible first | exact HB.out | apply below_alloc | apply pw_below_drewN | apply below_drew1 | refine below_set ?_ GE217.out | refine below_set ?_ GE232.out | refine below_set ?_ GE239.out | refine below_set ?_ GE247.out) | exact HB.out)); (case side2 => exact Kd.R_tight rfl HO_248000.out); (case side3 => exact fun k_ e_ => (HO_248000.out.1 k_ e_.symm).2.2.2.2); (case side4 => exact Kd.R_tight rfl HO_248001.out); (case side5 => exact fun k_ e_ => (HO_248001.out.1 k_ e_.symm).2.2.2.2); rintro e w91 ⟨rfl, hy0, hy1, hb, hkp⟩; refine ⟨_, rfl, ?_⟩; have n0_ := Aside0.mk (Kd.R_mono (ok' := fun k_ => some k_ ≠ (.slice Ao25 t228.length co25 : Value).ownBlock ∧ some k_ ≠ (.slice Ao29 t257.length co29 : Value).ownBlock ∧ some k_ ≠ (.slice Ao33 t258.length co33 : Value).ownBlock ∧ some k_ ≠ (.slice Ao36 t240.length co36 : Value).ownBlock ∧ some k_ ≠ (.slice Ao41 t243.length co41 : Value).ownBlock) (Kd.R_keptB (HO_233000.out) hkp (fun k_ hk_ hs_ => Or.elim hs_ (fun e_ => (hk_.2.2.2.1) e_) (fun e_ => (hk_.2.2.2.2) e_))) (fun k_ hk_ => ⟨hk_.1.1, hk_.1.2.1, hk_.1.2.2.1, hk_.1.2.2.2.1, hk_.1.2.2.2.2⟩)); have n1_ := Aside0.mk (Kd.R_mono (ok' := fun k_ => some k_ ≠ (.slice Ao22 t225.length co22 : Value).ownBlock ∧ some k_ ≠ (.slice Ao29 t257.length co29 : Value).ownBlock ∧ some k_ ≠ (.slice Ao33 t258.length co33 : Value).ownBlock ∧ some k_ ≠ (.slice Ao36 t240.length co36 : Value).ownBlock ∧ some k_ ≠ (.slice Ao41 t243.length co41 : Value).ownBlock) (Kd.R_keptB (HO_233001.out) hkp (fun k_ hk_ hs_ => Or.elim hs_ (fun e_ => (hk_.2.2.2.1) e_) (fun e_ => (hk_.2.2.2.2) e_))) (fun k_ hk_ => ⟨hk_.1.1, hk_.1.2.1, hk_.1.2.2.1, hk_.1.2.2.2.1, hk_.1.2.2.2.2⟩)); have n2_ := Aside0.mk (Kd.R_mono (ok' := fun k_ => some k_ ≠ (.slice Ao22 t225.length co22 : Value).ownBlock ∧ some k_ ≠ (.slice Ao25 t228.length co25 : Value).ownBlock ∧ some k_ ≠ (.slice Ao33 t258.length co33 : Value).ownBlock ∧ some k_ ≠ (.slice Ao36 t240.length co36 : Value).ownBlock ∧ some k_ ≠ (.slice Ao41 t243.length co41 : Value).ownBlock) (Kd.R_keptB (HO_240000.out) hkp (fun k_ hk_ hs_ => Or.elim hs_ (fun e_ => (hk_.2.2.2.1) e_) (fun e_ => (hk_.2.2.2.2) e_))) (fun k_ hk_ => ⟨hk_.1.1, hk_.1.2.1, hk_.1.2.2.1, hk_.1.2.2.2.1, hk_.1.2.2.2.2⟩)); have n3_ := Aside0.mk (Kd.R_mono (ok' := fun k_ => some k_ ≠ (.slice Ao22 t225.length co22 : Value).ownBlock ∧ some k_ ≠ (.slice Ao25 t228.length co25 : Value).ownBlock ∧ some k_ ≠ (.slice Ao29 t257.length co29 : Value).ownBlock ∧ some k_ ≠ (.slice Ao36 t240.length co36 : Value).ownBlock ∧ some k_ ≠ (.slice Ao41 t243.length co41 : Value).ownBlock) (Kd.R_keptB (HO_240001.out) hkp (fun k_ hk_ hs_ => Or.elim hs_ (fun e_ => (hk_.2.2.2.1) e_) (fun e_ => (hk_.2.2.2.2) e_))) (fun k_ hk_ => ⟨hk_.1.1, hk_.1.2.1, hk_.1.2.2.1, hk_.1.2.2.2.1, hk_.1.2.2.2.2⟩)); have n4_ := Aside0.mk (Kd.R_reok rfl hy0 (fun k_ e_ => HO_248000.out.1 k_ e_)); have n5_ := Aside0.mk (Kd.R_reok rfl hy1 (fun k_ e_ => HO_248001.out.1 k_ e_)); have n6_ := Aside0.mk (blk_kept (by (with_reducible repeat (first | refine blk_drewN ?_ _ | refine blk_drew ?_ | refine blk_alloc ?_ _)); exact BK217.out) hkp (fun hs_ => Or.elim hs_ (fun e_ => (fun e_ => (Kd.R_ne HO_248000.out BK217.out (by decide)) e_) e_) (fun e_ => (fun e_ => (Kd.R_ne HO_248001.out BK217.out (by decide)) e_) e_))); have n7_ := Aside0.mk (blk_kept (by (with_reducible repeat (first | refine blk_drewN ?_ _ | refine blk_drew ?_ | refine blk_alloc ?_ _)); exact BK232.out) hkp (fun hs_ => Or.elim hs_ (fun e_ => (fun e_ => (Kd.R_ne HO_248000.out BK232.out (by decide)) e_) e_) (fun e_ => (fun e_ => (Kd.R_ne HO_248001.out BK232.out (by decide)) e_) e_))); have n8_ := Aside0.mk (blk_kept (by (with_reducible repeat (first | refine blk_drewN ?_ _ | refine blk_drew ?_ | refine blk_alloc ?_ _)); exact BK239.out) hkp (fun hs_ => Or.elim hs_ (fun e_ => (fun e_ => (Kd.R_ne HO_248000.out BK239.out (by decide)) e_) e_) (fun e_ => (fun e_ => (Kd.R_ne HO_248001.out BK239.out (by decide)) e_) e_))); have n9_ := Aside0.mk (blk_kept (by (with_reducible repeat (first | refine blk_drewN ?_ _ | refine blk_drew ?_ | refine blk_alloc ?_ _)); exact BK247.out) hkp (fun hs_ => Or.elim hs_ (fun e_ => (fun e_ => (Kd.R_ne HO_248000.out BK247.out (by decide)) e_) e_) (fun e_ => (fun e_ => (Kd.R_ne HO_248001.out BK247.out (by decide)) e_) e_))); have n10_ := Aside0.mk (hb); clear HO_233000; clear HO_233001; clear HO_240000; clear HO_240001; clear HO_248000; clear HO_248001; clear BK217; clear BK232; clear BK239; clear BK247; clear HB; have HO_233000 := n0_; have HO_233001 := n1_; have HO_240000 := n2_; have HO_240001 := n3_; have HO_248000 := n4_; have HO_248001 := n5_; have BK217 := n6_; have BK232 := n7_; have BK239 := n8_; have BK247 := n9_; have HB := n10_; clear n0_ n1_ n2_ n3_ n4_ n5_ n6_ n7_ n8_ n9_ n10_; (try clear hb); (try clear hkp); (try clear hy0); (try clear hy1); have hcz92_0 : w91.cell? ⟨gb247, 0, none⟩ = some (.slice Ao36 t240.length co36) := (blk_cell BK247.out 0).trans rfl; have hcz92_1 : w91.cell? ⟨gb247, 1, none⟩ = some (.slice Ao41 t243.length co41) := (blk_cell BK247.out 1).trans rfl; have hfz92_0 := blk_frozen BK247.out 0; have hfz92_1 := blk_frozen BK247.out 1) | ((with_reducible refine gate_callee (f := 21) rfl ?_); refine goesL_ (some 71) rfl rfl Try.func21 (by kernel_rfl) rfl #[.agg #[.slice Ao36 t261.length co36, .slice Ao41 t262.length co41], .int .i64 1] rfl (by (try simp only [List.map_toArray, List.map_cons, List.map_nil]); first | done | (rw [show t261.length = t240.length from (Kd.R_reads' HO_248000.out).1.symm, show t262.length = t243.length from (Kd.R_reads' HO_248001.out).1.symm] <;> rfl) | rfl | (simp only [List.length_drop, List.length_take]; rfl)) ?_; (with_reducible refine (laws_heldArray.calls kj56 _ _ t261 _ _ t262 1 t263 _ ?side1 ?side2 ?side3 ?side4 A81.out).mono ?_); (case side1 => repeat (first | exact (Kd.R_reads' HO_248000.out).2.2 | (with_reducible refine Kd.C_alloc ?_ _) | (with_reducible refine Kd.C_drewN ?_ _) | (with_reducible refine Kd.C_drew ?_))); (case side2 => rw [show t261.length = t240.length from (Kd.R_reads' HO_248000.out).1.symm]; exact (Kd.R_reads' HO_248000.out).2.1); (case side3 => repeat (first | exact (Kd.R_reads' HO_248001.out).2.2 | (with_reducible refine Kd.C_alloc ?_ _) | (with_reducible refine Kd.C_drewN ?_ _) | (with_reducible refine Kd.C_drew ?_))); (case side4 => rw [show t262.length = t243.length from (Kd.R_reads' HO_248001.out).1.symm]; exact (Kd.R_reads' HO_248001.out).2.1); rintro e w93 ⟨rfl, hb⟩; refine ⟨_, rfl, ?_⟩; have n0_ := Aside0.mk (Kd.R_below (by (with_reducible repeat (first | apply Kd.R_alloc | apply Kd.R_drewN | apply Kd.R_drew)); exact HO_233000.out) hb); have n1_ := Aside0.mk (Kd.R_below (by (with_reducible repeat (first | apply Kd.R_alloc | apply Kd.R_drewN | apply Kd.R_drew)); exact HO_233001.out) hb); have n2_ := Aside0.mk (Kd.R_below (by (with_reducible repeat (first | apply Kd.R_alloc | apply Kd.R_drewN | apply Kd.R_drew)); exact HO_240000.out) hb); have n3_ := Aside0.mk (Kd.R_below (by (with_reducible repeat (first | apply Kd.R_alloc | apply Kd.R_drewN | apply Kd.R_drew)); exact HO_240001.out) hb); have n4_ := Aside0.mk (Kd.R_below (by (with_reducible repeat (first | apply Kd.R_alloc | apply Kd.R_drewN | apply Kd.R_drew)); exact HO_248000.out) hb); have n5_ := Aside0.mk (Kd.R_below (by (with_reducible repeat (first | apply Kd.R_alloc | apply Kd.R_drewN | apply Kd.R_drew)); exact HO_248001.out) hb); have n6_ := Aside0.mk (blk_below (g := gb217) (o := .cells #[.slice A1_0 l1_0.length c1_0, .slice A1_1 l1_1.length c1_1] 24 (0, 0)) (by (with_reducible repeat (first | refine blk_drewN ?_ _ | refine blk_drew ?_ | refine blk_alloc ?_ _)); exact BK217.out) hb); have n7_ := Aside0.mk (blk_below (g := gb232) (o := .cells #[.slice Ao22 t225.length co22, .slice Ao25 t228.length co25] 26 (0, 0)) (by (with_reducible repeat (first | refine blk_drewN ?_ _ | refine blk_drew ?_ | refine blk_alloc ?_ _)); exact BK232.out) hb); have n8_ := Aside0.mk (blk_below (g := gb239) (o := .cells #[.slice Ao29 t257.length co29, .slice Ao33 t258.length co33] 26 (0, 0)) (by (with_reducible repeat (first | refine blk_drewN ?_ _ | refine blk_drew ?_ | refine blk_alloc ?_ _)); exact BK239.out) hb); have n9_ := Aside0.mk (blk_below (g := gb247) (o := .cells #[.slice Ao36 t240.length co36, .slice Ao41 t243.length co41] 26 (0, 0)) (by (with_reducible repeat (first | refine blk_drewN ?_ _ | refine blk_drew ?_ | refine blk_alloc ?_ _)); exact BK247.out) hb); have n10_ := Aside0.mk (below_step (by repeat (first | (with_reducible first | exact HB.out | apply below_alloc | apply pw_below_drewN | apply below_drew1 | refine below_set ?_ GE217.out | refine below_set ?_ GE232.out | refine below_set ?_ GE239.out | refine below_set ?_ GE247.out) | exact HB.out)) hb); clear HO_233000; clear HO_233001; clear HO_240000; clear HO_240001; clear HO_248000; clear HO_248001; clear BK217; clear BK232; clear BK239; clear BK247; clear HB; have HO_233000 := n0_; have HO_233001 := n1_; have HO_240000 := n2_; have HO_240001 := n3_; have HO_248000 := n4_; have HO_248001 := n5_; have BK217 := n6_; have BK232 := n7_; have BK239 := n8_; have BK247 := n9_; have HB := n10_; clear n0_ n1_ n2_ n3_ n4_ n5_ n6_ n7_ n8_ n9_ n10_; (try clear hb); (try clear hb2); (try clear hk); (try clear hi); have hnb94 := NB217_232.out; have hnc94 := NB232_217.out; have hnb95 := NB217_239.out; have hnc95 := NB239_217.out; have hcz96_0 : w93.cell? ⟨gb217, 0, none⟩ = some (.slice A1_0 l1_0.length c1_0) := (blk_cell BK217.out 0).trans rfl; have hcz96_1 : w93.cell? ⟨gb217, 1, none⟩ = some (.slice A1_1 l1_1.length c1_1) := (blk_cell BK217.out 1).trans rfl; have hfz96_0 := blk_frozen BK217.out 0; have hfz96_1 := blk_frozen BK217.out 1) | ((with_reducible refine gate_callee (f := 17) rfl ?_); refine goesL_ (some 80) rfl rfl Try.func17 (by kernel_rfl) rfl #[.agg #[.slice A1_0 l1_0.length c1_0, .slice A1_1 l1_1.length c1_1]] rfl (by (try simp only [List.map_toArray, List.map_cons, List.map_nil]); first | done | rfl | (simp only [List.length_drop, List.length_take]; rfl)) ?_; (with_reducible refine (laws_toArray.calls kj56 _ _ l1_0 _ _ l1_1 t264 t267 _ ?side1 ?side2 ?side3 ?side4 A84.out).mono ?_); (case side1 => repeat (first | exact (Kd.C_below HR1_0.out HB.out) | (with_reducible refine Kd.C_alloc ?_ _) | (with_reducible refine Kd.C_drewN ?_ _) | (with_reducible refine Kd.C_drew ?_))); (case side2 => exact HC1_0.out); (case side3 => repeat (first | exact (Kd.C_below HR1_1.out HB.out) | (with_reducible refine Kd.C_alloc ?_ _) | (with_reducible refine Kd.C_drewN ?_ _) | (with_reducible refine Kd.C_drew ?_))); (case side4 => exact HC1_1.out); rintro e w97 ⟨v265, v268, rfl, ho0, ho1, hb⟩; refine ⟨_, rfl, ?_⟩; have n0_ := Aside0.mk (Kd.R_mono (Kd.R_told (Kd.R_told (Kd.R_old (by (with_reducible repeat (first | apply Kd.R_alloc | apply Kd.R_drewN | apply Kd.R_drew)); exact HO_233000.out) hb) (Kd.R_base ho0)) (Kd.R_base ho1)) (fun _ h_ => h_.1)); have n1_ := Aside0.mk (Kd.R_mono (Kd.R_told (Kd.R_told (Kd.R_old (by (with_reducible repeat (first | apply Kd.R_alloc | apply Kd.R_drewN | apply Kd.R_drew)); exact HO_233001.out) hb) (Kd.R_base ho0)) (Kd.R_base ho1)) (fun _ h_ => h_.1)); have n2_ := Aside0.mk (Kd.R_mono (Kd.R_told (Kd.R_told (Kd.R_old (by (with_reducible repeat (first | apply Kd.R_alloc | apply Kd.R_drewN | apply Kd.R_drew)); exact HO_240000.out) hb) (Kd.R_base ho0)) (Kd.R_base ho1)) (fun _ h_ => h_.1)); have n3_ := Aside0.mk (Kd.R_mono (Kd.R_told (Kd.R_told (Kd.R_old (by (with_reducible repeat (first | apply Kd.R_alloc | apply Kd.R_drewN | apply Kd.R_drew)); exact HO_240001.out) hb) (Kd.R_base ho0)) (Kd.R_base ho1)) (fun _ h_ => h_.1)); have n4_ := Aside0.mk (Kd.R_mono (Kd.R_told (Kd.R_told (Kd.R_old (by (with_reducible repeat (first | apply Kd.R_alloc | apply Kd.R_drewN | apply Kd.R_drew)); exact HO_248000.out) hb) (Kd.R_base ho0)) (Kd.R_base ho1)) (fun _ h_ => h_.1)); have n5_ := Aside0.mk (Kd.R_mono (Kd.R_told (Kd.R_told (Kd.R_old (by (with_reducible repeat (first | apply Kd.R_alloc | apply Kd.R_drewN | apply Kd.R_drew)); exact HO_248001.out) hb) (Kd.R_base ho0)) (Kd.R_base ho1)) (fun _ h_ => h_.1)); have n6_ := Aside0.mk (Kd.R_lower (Kd.R_new' (Kd.R_new' (Kd.R_new' (Kd.R_new' (Kd.R_new' (Kd.R_new' ho0 (Kd.R_lt (by (with_reducible repeat (first | apply Kd.R_alloc | apply Kd.R_drewN | apply Kd.R_drew)); exact HO_233000.out))) (Kd.R_lt (by (with_reducible repeat (first | apply Kd.R_alloc | apply Kd.R_drewN | apply Kd.R_drew)); exact HO_233001.out))) (Kd.R_lt (by (with_reducible repeat (first | apply Kd.R_alloc | apply Kd.R_drewN | apply Kd.R_drew)); exact HO_240000.out))) (Kd.R_lt (by (with_reducible repeat (first | apply Kd.R_alloc | apply Kd.R_drewN | apply Kd.R_drew)); exact HO_240001.out))) (Kd.R_lt (by (with_reducible repeat (first | apply Kd.R_alloc | apply Kd.R_drewN | apply Kd.R_drew)); exact HO_248000.out))) (Kd.R_lt (by (with_reducible repeat (first | apply Kd.R_alloc | apply Kd.R_drewN | apply Kd.R_drew)); exact HO_248001.out))) (below_size (by repeat (first | (with_reducible first | exact HB.out | apply below_alloc | apply pw_below_drewN | apply below_drew1 | refine below_set ?_ GE217.out | refine below_set ?_ GE232.out | refine below_set ?_ GE239.out | refine below_set ?_ GE247.out) | exact HB.out)))); have n7_ := Aside0.mk (Kd.R_lower (Kd.R_new' (Kd.R_new' (Kd.R_new' (Kd.R_new' (Kd.R_new' (Kd.R_new' ho1 (Kd.R_lt (by (with_reducible repeat (first | apply Kd.R_alloc | apply Kd.R_drewN | apply Kd.R_drew)); exact HO_233000.out))) (Kd.R_lt (by (with_reducible repeat (first | apply Kd.R_alloc | apply Kd.R_drewN | apply Kd.R_drew)); exact HO_233001.out))) (Kd.R_lt (by (with_reducible repeat (first | apply Kd.R_alloc | apply Kd.R_drewN | apply Kd.R_drew)); exact HO_240000.out))) (Kd.R_lt (by (with_reducible repeat (first | apply Kd.R_alloc | apply Kd.R_drewN | apply Kd.R_drew)); exact HO_240001.out))) (Kd.R_lt (by (with_reducible repeat (first | apply Kd.R_alloc | apply Kd.R_drewN | apply Kd.R_drew)); exact HO_248000.out))) (Kd.R_lt (by (with_reducible repeat (first | apply Kd.R_alloc | apply Kd.R_drewN | apply Kd.R_drew)); exact HO_248001.out))) (below_size (by repeat (first | (with_reducible first | exact HB.out | apply below_alloc | apply pw_below_drewN | apply below_drew1 | refine below_set ?_ GE217.out | refine below_set ?_ GE232.out | refine below_set ?_ GE239.out | refine below_set ?_ GE247.out) | exact HB.out)))); have n8_ := Aside0.mk (blk_below (g := gb217) (o := .cells #[.slice A1_0 l1_0.length c1_0, .slice A1_1 l1_1.length c1_1] 24 (0, 0)) (by (with_reducible repeat (first | refine blk_drewN ?_ _ | refine blk_drew ?_ | refine blk_alloc ?_ _)); exact BK217.out) hb); have n9_ := Aside0.mk (blk_below (g := gb232) (o := .cells #[.slice Ao22 t225.length co22, .slice Ao25 t228.length co25] 26 (0, 0)) (by (with_reducible repeat (first | refine blk_drewN ?_ _ | refine blk_drew ?_ | refine blk_alloc ?_ _)); exact BK232.out) hb); have n10_ := Aside0.mk (blk_below (g := gb239) (o := .cells #[.slice Ao29 t257.length co29, .slice Ao33 t258.length co33] 26 (0, 0)) (by (with_reducible repeat (first | refine blk_drewN ?_ _ | refine blk_drew ?_ | refine blk_alloc ?_ _)); exact BK239.out) hb); have n11_ := Aside0.mk (blk_below (g := gb247) (o := .cells #[.slice Ao36 t240.length co36, .slice Ao41 t243.length co41] 26 (0, 0)) (by (with_reducible repeat (first | refine blk_drewN ?_ _ | refine blk_drew ?_ | refine blk_alloc ?_ _)); exact BK247.out) hb); have n12_ := Aside0.mk (below_step (by repeat (first | (with_reducible first | exact HB.out | apply below_alloc | apply pw_below_drewN | apply below_drew1 | refine below_set ?_ GE217.out | refine below_set ?_ GE232.out | refine below_set ?_ GE239.out | refine below_set ?_ GE247.out) | exact HB.out)) hb); clear HO_233000; clear HO_233001; clear HO_240000; clear HO_240001; clear HO_248000; clear HO_248001; clear BK217; clear BK232; clear BK239; clear BK247; clear HB; have HO_233000 := n0_; have HO_233001 := n1_; have HO_240000 := n2_; have HO_240001 := n3_; have HO_248000 := n4_; have HO_248001 := n5_; have HO266 := n6_; have HO269 := n7_; have BK217 := n8_; have BK232 := n9_; have BK239 := n10_; have BK247 := n11_; have HB := n12_; clear n0_ n1_ n2_ n3_ n4_ n5_ n6_ n7_ n8_ n9_ n10_ n11_ n12_; (try clear hb); (try clear hb2); (try clear hk); (try clear hi); (try clear ho0); (try clear ho1); obtain ⟨Ao98, co98, eo98⟩ := Kd.R_slice HO266.out; subst eo98; obtain ⟨Ao99, co99, eo99⟩ := Kd.R_slice HO269.out; subst eo99) | ((with_reducible refine gate_callee (f := 53) rfl ?_); refine goesL_ (some 81) rfl rfl Try.func53 (by kernel_rfl) rfl #[.int .i64 a0, .agg #[.slice Ao98 t264.length co98, .slice Ao99 t267.length co99]] rfl (by (try simp only [List.map_toArray, List.map_cons, List.map_nil]); first | done | rfl | (simp only [List.length_drop, List.length_take]; rfl)) ?_; (with_reducible refine (impl_EachOne.calls kj56 a0 _ _ t264 _ _ t267 t270 t273 t276 _ ?side1 ?side2 ?side3 ?side4 A85.out).mono ?_); (case side1 => repeat (first | exact (Kd.R_reads' HO266.out).2.2 | (with_reducible refine Kd.C_alloc ?_ _) | (with_reducible refine Kd.C_drewN ?_ _) | (with_reducible refine Kd.C_drew ?_))); (case side2 => exact (Kd.R_reads' HO266.out).2.1); (case side3 => repeat (first | exact (Kd.R_reads' HO269.out).2.2 | (with_reducible refine Kd.C_alloc ?_ _) | (with_reducible refine Kd.C_drewN ?_ _) | (with_reducible refine Kd.C_drew ?_))); (case side4 => exact (Kd.R_reads' HO269.out).2.1); rintro e w100 ⟨v271, v274, rfl, ho0, ho1, hb⟩; refine ⟨_, rfl, ?_⟩; have n0_ := Aside0.mk (Kd.R_mono (Kd.R_told (Kd.R_told (Kd.R_old (by (with_reducible repeat (first | apply Kd.R_alloc | apply Kd.R_drewN | apply Kd.R_drew)); exact HO_233000.out) hb) (Kd.R_base ho0)) (Kd.R_base ho1)) (fun _ h_ => h_.1)); have n1_ := Aside0.mk (Kd.R_mono (Kd.R_told (Kd.R_told (Kd.R_old (by (with_reducible repeat (first | apply Kd.R_alloc | apply Kd.R_drewN | apply Kd.R_drew)); exact HO_233001.out) hb) (Kd.R_base ho0)) (Kd.R_base ho1)) (fun _ h_ => h_.1)); have n2_ := Aside0.mk (Kd.R_mono (Kd.R_told (Kd.R_told (Kd.R_old (by (with_reducible repeat (first | apply Kd.R_alloc | apply Kd.R_drewN | apply Kd.R_drew)); exact HO_240000.out) hb) (Kd.R_base ho0)) (Kd.R_base ho1)) (fun _ h_ => h_.1)); have n3_ := Aside0.mk (Kd.R_mono (Kd.R_told (Kd.R_told (Kd.R_old (by (with_reducible repeat (first | apply Kd.R_alloc | apply Kd.R_drewN | apply Kd.R_drew)); exact HO_240001.out) hb) (Kd.R_base ho0)) (Kd.R_base ho1)) (fun _ h_ => h_.1)); have n4_ := Aside0.mk (Kd.R_mono (Kd.R_told (Kd.R_told (Kd.R_old (by (with_reducible repeat (first | apply Kd.R_alloc | apply Kd.R_drewN | apply Kd.R_drew)); exact HO_248000.out) hb) (Kd.R_base ho0)) (Kd.R_base ho1)) (fun _ h_ => h_.1)); have n5_ := Aside0.mk (Kd.R_mono (Kd.R_told (Kd.R_told (Kd.R_old (by (with_reducible repeat (first | apply Kd.R_alloc | apply Kd.R_drewN | apply Kd.R_drew)); exact HO_248001.out) hb) (Kd.R_base ho0)) (Kd.R_base ho1)) (fun _ h_ => h_.1)); have n6_ := Aside0.mk (Kd.R_mono (Kd.R_told (Kd.R_told (Kd.R_old (by (with_reducible repeat (first | apply Kd.R_alloc | apply Kd.R_drewN | apply Kd.R_drew)); exact HO266.out) hb) (Kd.R_base ho0)) (Kd.R_base ho1)) (fun _ h_ => h_.1)); have n7_ := Aside0.mk (Kd.R_mono (Kd.R_told (Kd.R_told (Kd.R_old (by (with_reducible repeat (first | apply Kd.R_alloc | apply Kd.R_drewN | apply Kd.R_drew)); exact HO269.out) hb) (Kd.R_base ho0)) (Kd.R_base ho1)) (fun _ h_ => h_.1)); have n8_ := Aside0.mk (Kd.R_lower (Kd.R_new' (Kd.R_new' (Kd.R_new' (Kd.R_new' (Kd.R_new' (Kd.R_new' (Kd.R_new' (Kd.R_new' ho0 (Kd.R_lt (by (with_reducible repeat (first | apply Kd.R_alloc | apply Kd.R_drewN | apply Kd.R_drew)); exact HO_233000.out))) (Kd.R_lt (by (with_reducible repeat (first | apply Kd.R_alloc | apply Kd.R_drewN | apply Kd.R_drew)); exact HO_233001.out))) (Kd.R_lt (by (with_reducible repeat (first | apply Kd.R_alloc | apply Kd.R_drewN | apply Kd.R_drew)); exact HO_240000.out))) (Kd.R_lt (by (with_reducible repeat (first | apply Kd.R_alloc | apply Kd.R_drewN | apply Kd.R_drew)); exact HO_240001.out))) (Kd.R_lt (by (with_reducible repeat (first | apply Kd.R_alloc | apply Kd.R_drewN | apply Kd.R_drew)); exact HO_248000.out))) (Kd.R_lt (by (with_reducible repeat (first | apply Kd.R_alloc | apply Kd.R_drewN | apply Kd.R_drew)); exact HO_248001.out))) (Kd.R_lt (by (with_reducible repeat (first | apply Kd.R_alloc | apply Kd.R_drewN | apply Kd.R_drew)); exact HO266.out))) (Kd.R_lt (by (with_reducible repeat (first | apply Kd.R_alloc | apply Kd.R_drewN | apply Kd.R_drew)); exact HO269.out))) (below_size (by repeat (first | (with_reducible first | exact HB.out | apply below_alloc | apply pw_below_drewN | apply below_drew1 | refine below_set ?_ GE217.out | refine below_set ?_ GE232.out | refine below_set ?_ GE239.out | refine below_set ?_ GE247.out) | exact HB.out)))); have n9_ := Aside0.mk (Kd.R_lower (Kd.R_new' (Kd.R_new' (Kd.R_new' (Kd.R_new' (Kd.R_new' (Kd.R_new' (Kd.R_new' (Kd.R_new' ho1 (Kd.R_lt (by (with_reducible repeat (first | apply Kd.R_alloc | apply Kd.R_drewN | apply Kd.R_drew)); exact HO_233000.out))) (Kd.R_lt (by (with_reducible repeat (first | apply Kd.R_alloc | apply Kd.R_drewN | apply Kd.R_drew)); exact HO_233001.out))) (Kd.R_lt (by (with_reducible repeat (first | apply Kd.R_alloc | apply Kd.R_drewN | apply Kd.R_drew)); exact HO_240000.out))) (Kd.R_lt (by (with_reducible repeat (first | apply Kd.R_alloc | apply Kd.R_drewN | apply Kd.R_drew)); exact HO_240001.out))) (Kd.R_lt (by (with_reducible repeat (first | apply Kd.R_alloc | apply Kd.R_drewN | apply Kd.R_drew)); exact HO_248000.out))) (Kd.R_lt (by (with_reducible repeat (first | apply Kd.R_alloc | apply Kd.R_drewN | apply Kd.R_drew)); exact HO_248001.out))) (Kd.R_lt (by (with_reducible repeat (first | apply Kd.R_alloc | apply Kd.R_drewN | apply Kd.R_drew)); exact HO266.out))) (Kd.R_lt (by (with_reducible repeat (first | apply Kd.R_alloc | apply Kd.R_drewN | apply Kd.R_drew)); exact HO269.out))) (below_size (by repeat (first | (with_reducible first | exact HB.out | apply below_alloc | apply pw_below_drewN | apply below_drew1 | refine below_set ?_ GE217.out | refine below_set ?_ GE232.out | refine below_set ?_ GE239.out | refine below_set ?_ GE247.out) | exact HB.out)))); have n10_ := Aside0.mk (blk_below (g := gb217) (o := .cells #[.slice A1_0 l1_0.length c1_0, .slice A1_1 l1_1.length c1_1] 24 (0, 0)) (by (with_reducible repeat (first | refine blk_drewN ?_ _ | refine blk_drew ?_ | refine blk_alloc ?_ _)); exact BK217.out) hb); have n11_ := Aside0.mk (blk_below (g := gb232) (o := .cells #[.slice Ao22 t225.length co22, .slice Ao25 t228.length co25] 26 (0, 0)) (by (with_reducible repeat (first | refine blk_drewN ?_ _ | refine blk_drew ?_ | refine blk_alloc ?_ _)); exact BK232.out) hb); have n12_ := Aside0.mk (blk_below (g := gb239) (o := .cells #[.slice Ao29 t257.length co29, .slice Ao33 t258.length co33] 26 (0, 0)) (by (with_reducible repeat (first | refine blk_drewN ?_ _ | refine blk_drew ?_ | refine blk_alloc ?_ _)); exact BK239.out) hb); have n13_ := Aside0.mk (blk_below (g := gb247) (o := .cells #[.slice Ao36 t240.length co36, .slice Ao41 t243.length co41] 26 (0, 0)) (by (with_reducible repeat (first | refine blk_drewN ?_ _ | refine blk_drew ?_ | refine blk_alloc ?_ _)); exact BK247.out) hb); have n14_ := Aside0.mk (below_step (by repeat (first | (with_reducible first | exact HB.out | apply below_alloc | apply pw_below_drewN | apply below_drew1 | refine below_set ?_ GE217.out | refine below_set ?_ GE232.out | refine below_set ?_ GE239.out | refine below_set ?_ GE247.out) | exact HB.out)) hb); clear HO_233000; clear HO_233001; clear HO_240000; clear HO_240001; clear HO_248000; clear HO_248001; clear HO266; clear HO269; clear BK217; clear BK232; clear BK239; clear BK247; clear HB; have HO_233000 := n0_; have HO_233001 := n1_; have HO_240000 := n2_; have HO_240001 := n3_; have HO_248000 := n4_; have HO_248001 := n5_; have HO266 := n6_; have HO269 := n7_; have HO272 := n8_; have HO275 := n9_; have BK217 := n10_; have BK232 := n11_; have BK239 := n12_; have BK247 := n13_; have HB := n14_; clear n0_ n1_ n2_ n3_ n4_ n5_ n6_ n7_ n8_ n9_ n10_ n11_ n12_ n13_ n14_; (try clear hb); (try clear hb2); (try clear hk); (try clear hi); (try clear ho0); (try clear ho1)) | ((with_reducible refine gate_dst (N := 14) rfl ?_); refine box_event ?hg (N := 14) ?hd (cs := #[.slice none 0 0, .slice none 0 0]) (t := 26) ?hr ?_; (case hd => rfl); (case hg => rfl); (case hr => first | (go_simp; done) | (go_simp; rfl)); intro gb277 hg w101 hbox hb; have n0_ := Aside0.mk (Kd.R_below (by (with_reducible repeat (first | apply Kd.R_alloc | apply Kd.R_drewN | apply Kd.R_drew)); exact HO_233000.out) hb); have n1_ := Aside0.mk (Kd.R_below (by (with_reducible repeat (first | apply Kd.R_alloc | apply Kd.R_drewN | apply Kd.R_drew)); exact HO_233001.out) hb); have n2_ := Aside0.mk (Kd.R_below (by (with_reducible repeat (first | apply Kd.R_alloc | apply Kd.R_drewN | apply Kd.R_drew)); exact HO_240000.out) hb); have n3_ := Aside0.mk (Kd.R_below (by (with_reducible repeat (first | apply Kd.R_alloc | apply Kd.R_drewN | apply Kd.R_drew)); exact HO_240001.out) hb); have n4_ := Aside0.mk (Kd.R_below (by (with_reducible repeat (first | apply Kd.R_alloc | apply Kd.R_drewN | apply Kd.R_drew)); exact HO_248000.out) hb); have n5_ := Aside0.mk (Kd.R_below (by (with_reducible repeat (first | apply Kd.R_alloc | apply Kd.R_drewN | apply Kd.R_drew)); exact HO_248001.out) hb); have n6_ := Aside0.mk (Kd.R_below (by (with_reducible repeat (first | apply Kd.R_alloc | apply Kd.R_drewN | apply Kd.R_drew)); exact HO266.out) hb); have n7_ := Aside0.mk (Kd.R_below (by (with_reducible repeat (first | apply Kd.R_alloc | apply Kd.R_drewN | apply Kd.R_drew)); exact HO269.out) hb); have n8_ := Aside0.mk (Kd.R_below (by (with_reducible repeat (first | apply Kd.R_alloc | apply Kd.R_drewN | apply Kd.R_drew)); exact HO272.out) hb); have n9_ := Aside0.mk (Kd.R_below (by (with_reducible repeat (first | apply Kd.R_alloc | apply Kd.R_drewN | apply Kd.R_drew)); exact HO275.out) hb); have n10_ := Aside0.mk (blk_below (g := gb217) (o := .cells #[.slice A1_0 l1_0.length c1_0, .slice A1_1 l1_1.length c1_1] 24 (0, 0)) (by (with_reducible repeat (first | refine blk_drewN ?_ _ | refine blk_drew ?_ | refine blk_alloc ?_ _)); exact BK217.out) hb); have n11_ := Aside0.mk (blk_below (g := gb232) (o := .cells #[.slice Ao22 t225.length co22, .slice Ao25 t228.length co25] 26 (0, 0)) (by (with_reducible repeat (first | refine blk_drewN ?_ _ | refine blk_drew ?_ | refine blk_alloc ?_ _)); exact BK232.out) hb); have n12_ := Aside0.mk (blk_below (g := gb239) (o := .cells #[.slice Ao29 t257.length co29, .slice Ao33 t258.length co33] 26 (0, 0)) (by (with_reducible repeat (first | refine blk_drewN ?_ _ | refine blk_drew ?_ | refine blk_alloc ?_ _)); exact BK239.out) hb); have n13_ := Aside0.mk (blk_below (g := gb247) (o := .cells #[.slice Ao36 t240.length co36, .slice Ao41 t243.length co41] 26 (0, 0)) (by (with_reducible repeat (first | refine blk_drewN ?_ _ | refine blk_drew ?_ | refine blk_alloc ?_ _)); exact BK247.out) hb); have n14_ := Aside0.mk (below_step (by repeat (first | (with_reducible first | exact HB.out | apply below_alloc | apply pw_below_drewN | apply below_drew1 | refine below_set ?_ GE217.out | refine below_set ?_ GE232.out | refine below_set ?_ GE239.out | refine below_set ?_ GE247.out) | exact HB.out)) hb); have n15_ := Aside0.mk (hbox); have n16_ := Aside0.mk ((by rw [hg]; exact (below_size (by repeat (first | (with_reducible first | exact HB.out | apply below_alloc | apply pw_below_drewN | apply below_drew1 | refine below_set ?_ GE217.out | refine below_set ?_ GE232.out | refine below_set ?_ GE239.out | refine below_set ?_ GE247.out) | exact HB.out))) : w.heap.size ≤ gb277)); have n17_ := Aside0.mk ((by rw [hg]; exact (below_size (by repeat (first | (with_reducible first | exact HB.out | apply below_alloc | apply pw_below_drewN | apply below_drew1 | refine below_set ?_ GE217.out | refine below_set ?_ GE232.out | refine below_set ?_ GE239.out | refine below_set ?_ GE247.out) | exact HB.out))) : w.heap.size ≤ gb277)); have n18_ := Aside0.mk ((by rw [hg]; exact Nat.ne_of_lt (blk_lt (g := gb217) (o := .cells #[.slice A1_0 l1_0.length c1_0, .slice A1_1 l1_1.length c1_1] 24 (0, 0)) (by (with_reducible repeat (first | refine blk_drewN ?_ _ | refine blk_drew ?_ | refine blk_alloc ?_ _)); exact BK217.out)) : gb217 ≠ gb277)); have n19_ := Aside0.mk ((by rw [hg]; exact Nat.ne_of_gt (blk_lt (g := gb217) (o := .cells #[.slice A1_0 l1_0.length c1_0, .slice A1_1 l1_1.length c1_1] 24 (0, 0)) (by (with_reducible repeat (first | refine blk_drewN ?_ _ | refine blk_drew ?_ | refine blk_alloc ?_ _)); exact BK217.out)) : gb277 ≠ gb217)); have n20_ := Aside0.mk ((by rw [hg]; exact Nat.ne_of_lt (blk_lt (g := gb232) (o := .cells #[.slice Ao22 t225.length co22, .slice Ao25 t228.length co25] 26 (0, 0)) (by (with_reducible repeat (first | refine blk_drewN ?_ _ | refine blk_drew ?_ | refine blk_alloc ?_ _)); exact BK232.out)) : gb232 ≠ gb277)); have n21_ := Aside0.mk ((by rw [hg]; exact Nat.ne_of_gt (blk_lt (g := gb232) (o := .cells #[.slice Ao22 t225.length co22, .slice Ao25 t228.length co25] 26 (0, 0)) (by (with_reducible repeat (first | refine blk_drewN ?_ _ | refine blk_drew ?_ | refine blk_alloc ?_ _)); exact BK232.out)) : gb277 ≠ gb232)); have n22_ := Aside0.mk ((by rw [hg]; exact Nat.ne_of_lt (blk_lt (g := gb239) (o := .cells #[.slice Ao29 t257.length co29, .slice Ao33 t258.length co33] 26 (0, 0)) (by (with_reducible repeat (first | refine blk_drewN ?_ _ | refine blk_drew ?_ | refine blk_alloc ?_ _)); exact BK239.out)) : gb239 ≠ gb277)); have n23_ := Aside0.mk ((by rw [hg]; exact Nat.ne_of_gt (blk_lt (g := gb239) (o := .cells #[.slice Ao29 t257.length co29, .slice Ao33 t258.length co33] 26 (0, 0)) (by (with_reducible repeat (first | refine blk_drewN ?_ _ | refine blk_drew ?_ | refine blk_alloc ?_ _)); exact BK239.out)) : gb277 ≠ gb239)); have n24_ := Aside0.mk ((by rw [hg]; exact Nat.ne_of_lt (blk_lt (g := gb247) (o := .cells #[.slice Ao36 t240.length co36, .slice Ao41 t243.length co41] 26 (0, 0)) (by (with_reducible repeat (first | refine blk_drewN ?_ _ | refine blk_drew ?_ | refine blk_alloc ?_ _)); exact BK247.out)) : gb247 ≠ gb277)); have n25_ := Aside0.mk ((by rw [hg]; exact Nat.ne_of_gt (blk_lt (g := gb247) (o := .cells #[.slice Ao36 t240.length co36, .slice Ao41 t243.length co41] 26 (0, 0)) (by (with_reducible repeat (first | refine blk_drewN ?_ _ | refine blk_drew ?_ | refine blk_alloc ?_ _)); exact BK247.out)) : gb277 ≠ gb247)); clear HO_233000; clear HO_233001; clear HO_240000; clear HO_240001; clear HO_248000; clear HO_248001; clear HO266; clear HO269; clear HO272; clear HO275; clear BK217; clear BK232; clear BK239; clear BK247; clear HB; have HO_233000 := n0_; have HO_233001 := n1_; have HO_240000 := n2_; have HO_240001 := n3_; have HO_248000 := n4_; have HO_248001 := n5_; have HO266 := n6_; have HO269 := n7_; have HO272 := n8_; have HO275 := n9_; have BK217 := n10_; have BK232 := n11_; have BK239 := n12_; have BK247 := n13_; have HB := n14_; have BK277 := n15_; have GW277 := n16_; have GE277 := n17_; have NB217_277 := n18_; have NB277_217 := n19_; have NB232_277 := n20_; have NB277_232 := n21_; have NB239_277 := n22_; have NB277_239 := n23_; have NB247_277 := n24_; have NB277_247 := n25_; clear n0_ n1_ n2_ n3_ n4_ n5_ n6_ n7_ n8_ n9_ n10_ n11_ n12_ n13_ n14_ n15_ n16_ n17_ n18_ n19_ n20_ n21_ n22_ n23_ n24_ n25_; clear hb hbox hg; obtain ⟨Ao102, co102, eo102⟩ := Kd.R_slice HO272.out; subst eo102; have hnb103 := NB277_217.out; have hnc103 := NB217_277.out; have hnb104 := NB277_232.out; have hnc104 := NB232_277.out; have hnb105 := NB277_239.out; have hnc105 := NB239_277.out; have hnb106 := NB277_247.out; have hnc106 := NB247_277.out; have hcz107_0 : w101.cell? ⟨gb277, 0, none⟩ = some (.slice none 0 0) := (blk_cell BK277.out 0).trans rfl; have hcz107_1 : w101.cell? ⟨gb277, 1, none⟩ = some (.slice none 0 0) := (blk_cell BK277.out 1).trans rfl; have hfz107_0 := blk_frozen BK277.out 0; have hfz107_1 := blk_frozen BK277.out 1; obtain ⟨Ao108, co108, eo108⟩ := Kd.R_slice HO275.out; subst eo108))
                      (try simp only [Act.put, List.setIfInBounds_toArray, List.set_cons_zero, List.set_cons_succ])
                      go_cut [92] (fun v92 wc => ∃ (kq : Nat) (x92_85 : Bool), v92 = .bool x92_85 ∧ Aside0 (laws_FnExactEachOne.j2 kq t260 x92_85 t261 t262 = some r) ∧ Aside0 (kq ≤ kj56) ∧ Aside0 (Kd.R (Kd.int .i64) 3 wc w.heap.size (fun k_ => some k_ ≠ ((.slice Ao25 t228.length co25) : Value).ownBlock ∧ some k_ ≠ ((.slice Ao29 t257.length co29) : Value).ownBlock ∧ some k_ ≠ ((.slice Ao33 t258.length co33) : Value).ownBlock ∧ some k_ ≠ ((.slice Ao36 t240.length co36) : Value).ownBlock ∧ some k_ ≠ ((.slice Ao41 t243.length co41) : Value).ownBlock ∧ some k_ ≠ ((.slice Ao102 t270.length co102) : Value).ownBlock ∧ some k_ ≠ ((.slice Ao108 t273.length co108) : Value).ownBlock) (.slice Ao22 t225.length co22) t225) ∧ Aside0 (Kd.R (Kd.int .i64) 3 wc w.heap.size (fun k_ => some k_ ≠ ((.slice Ao22 t225.length co22) : Value).ownBlock ∧ some k_ ≠ ((.slice Ao29 t257.length co29) : Value).ownBlock ∧ some k_ ≠ ((.slice Ao33 t258.length co33) : Value).ownBlock ∧ some k_ ≠ ((.slice Ao36 t240.length co36) : Value).ownBlock ∧ some k_ ≠ ((.slice Ao41 t243.length co41) : Value).ownBlock ∧ some k_ ≠ ((.slice Ao102 t270.length co102) : Value).ownBlock ∧ some k_ ≠ ((.slice Ao108 t273.length co108) : Value).ownBlock) (.slice Ao25 t228.length co25) t228) ∧ Aside0 (Kd.R (Kd.int .i64) 3 wc w.heap.size (fun k_ => some k_ ≠ ((.slice Ao22 t225.length co22) : Value).ownBlock ∧ some k_ ≠ ((.slice Ao25 t228.length co25) : Value).ownBlock ∧ some k_ ≠ ((.slice Ao33 t258.length co33) : Value).ownBlock ∧ some k_ ≠ ((.slice Ao36 t240.length co36) : Value).ownBlock ∧ some k_ ≠ ((.slice Ao41 t243.length co41) : Value).ownBlock ∧ some k_ ≠ ((.slice Ao102 t270.length co102) : Value).ownBlock ∧ some k_ ≠ ((.slice Ao108 t273.length co108) : Value).ownBlock) (.slice Ao29 t257.length co29) t257) ∧ Aside0 (Kd.R (Kd.int .i64) 3 wc w.heap.size (fun k_ => some k_ ≠ ((.slice Ao22 t225.length co22) : Value).ownBlock ∧ some k_ ≠ ((.slice Ao25 t228.length co25) : Value).ownBlock ∧ some k_ ≠ ((.slice Ao29 t257.length co29) : Value).ownBlock ∧ some k_ ≠ ((.slice Ao36 t240.length co36) : Value).ownBlock ∧ some k_ ≠ ((.slice Ao41 t243.length co41) : Value).ownBlock ∧ some k_ ≠ ((.slice Ao102 t270.length co102) : Value).ownBlock ∧ some k_ ≠ ((.slice Ao108 t273.length co108) : Value).ownBlock) (.slice Ao33 t258.length co33) t258) ∧ Aside0 (Kd.R (Kd.int .i64) 3 wc w.heap.size (fun k_ => some k_ ≠ ((.slice Ao22 t225.length co22) : Value).ownBlock ∧ some k_ ≠ ((.slice Ao25 t228.length co25) : Value).ownBlock ∧ some k_ ≠ ((.slice Ao29 t257.length co29) : Value).ownBlock ∧ some k_ ≠ ((.slice Ao33 t258.length co33) : Value).ownBlock ∧ some k_ ≠ ((.slice Ao41 t243.length co41) : Value).ownBlock ∧ some k_ ≠ ((.slice Ao102 t270.length co102) : Value).ownBlock ∧ some k_ ≠ ((.slice Ao108 t273.length co108) : Value).ownBlock) (.slice Ao36 t240.length co36) t261) ∧ Aside0 (Kd.R (Kd.int .i64) 3 wc w.heap.size (fun k_ => some k_ ≠ ((.slice Ao22 t225.length co22) : Value).ownBlock ∧ some k_ ≠ ((.slice Ao25 t228.length co25) : Value).ownBlock ∧ some k_ ≠ ((.slice Ao29 t257.length co29) : Value).ownBlock ∧ some k_ ≠ ((.slice Ao33 t258.length co33) : Value).ownBlock ∧ some k_ ≠ ((.slice Ao36 t240.length co36) : Value).ownBlock ∧ some k_ ≠ ((.slice Ao102 t270.length co102) : Value).ownBlock ∧ some k_ ≠ ((.slice Ao108 t273.length co108) : Value).ownBlock) (.slice Ao41 t243.length co41) t262) ∧ Aside0 (Kd.R (Kd.int .i64) 3 wc w.heap.size (fun k_ => some k_ ≠ ((.slice Ao22 t225.length co22) : Value).ownBlock ∧ some k_ ≠ ((.slice Ao25 t228.length co25) : Value).ownBlock ∧ some k_ ≠ ((.slice Ao29 t257.length co29) : Value).ownBlock ∧ some k_ ≠ ((.slice Ao33 t258.length co33) : Value).ownBlock ∧ some k_ ≠ ((.slice Ao36 t240.length co36) : Value).ownBlock ∧ some k_ ≠ ((.slice Ao41 t243.length co41) : Value).ownBlock ∧ some k_ ≠ ((.slice Ao108 t273.length co108) : Value).ownBlock) (.slice Ao102 t270.length co102) t270) ∧ Aside0 (Kd.R (Kd.int .i64) 3 wc w.heap.size (fun k_ => some k_ ≠ ((.slice Ao22 t225.length co22) : Value).ownBlock ∧ some k_ ≠ ((.slice Ao25 t228.length co25) : Value).ownBlock ∧ some k_ ≠ ((.slice Ao29 t257.length co29) : Value).ownBlock ∧ some k_ ≠ ((.slice Ao33 t258.length co33) : Value).ownBlock ∧ some k_ ≠ ((.slice Ao36 t240.length co36) : Value).ownBlock ∧ some k_ ≠ ((.slice Ao41 t243.length co41) : Value).ownBlock ∧ some k_ ≠ ((.slice Ao102 t270.length co102) : Value).ownBlock) (.slice Ao108 t273.length co108) t273) ∧ Aside0 (wc.heap[gb217]? = some (.cells #[(.slice A1_0 l1_0.length c1_0), (.slice A1_1 l1_1.length c1_1)] 24 (0, 0))) ∧ Aside0 (wc.heap[gb232]? = some (.cells #[(.slice Ao22 t225.length co22), (.slice Ao25 t228.length co25)] 26 (0, 0))) ∧ Aside0 (wc.heap[gb239]? = some (.cells #[(.slice Ao29 t257.length co29), (.slice Ao33 t258.length co33)] 26 (0, 0))) ∧ Aside0 (wc.heap[gb247]? = some (.cells #[(.slice Ao36 t240.length co36), (.slice Ao41 t243.length co41)] 26 (0, 0))) ∧ Aside0 (wc.heap[gb277]? = some (.cells #[(.slice Ao102 t270.length co102), (.slice Ao108 t273.length co108)] 26 (0, 0))) ∧ Aside0 (Below w.heap.size w wc))
                      case first =>
                        have H := HC86.out
                        clear HC86
                        replace H := Option.bind_eq_some_iff.mp H
                        obtain ⟨t278, A1090, H⟩ := H
                        replace H : (if t278 = true then (laws_FnExactEachOne.j2 kj56 t260 (t276 != t231) t261 t262) else (laws_FnExactEachOne.j2 kj56 t260 true t261 t262)) = some r := H
                        have A109 := Aside0.mk A1090
                        clear A1090
                        by_cases c110 : t278 = true
                        · subst c110
                          have H1 : (laws_FnExactEachOne.j2 kj56 t260 (t276 != t231) t261 t262) = some r := by rw [if_pos rfl] at H; exact H
                          clear H
                          have H := H1
                          clear H1
                          have H' := Aside0.mk H
                          clear H
                          have hnb111 := NB277_217.out
                          have hnc111 := NB217_277.out
                          have hnb112 := NB277_232.out
                          have hnc112 := NB232_277.out
                          have hnb113 := NB277_239.out
                          have hnc113 := NB239_277.out
                          have hnb114 := NB277_247.out
                          have hnc114 := NB247_277.out
                          have hcz115_0 : w101.cell? ⟨gb277, 0, none⟩ = some (.slice none 0 0) := (blk_cell BK277.out 0).trans rfl
                          have hcz115_1 : w101.cell? ⟨gb277, 1, none⟩ = some (.slice none 0 0) := (blk_cell BK277.out 1).trans rfl
                          have hfz115_0 := blk_frozen BK277.out 0
                          have hfz115_1 := blk_frozen BK277.out 1
                          have hnb116 := NB232_217.out
                          have hnc116 := NB217_232.out
                          have hnb117 := NB232_239.out
                          have hnc117 := NB239_232.out
                          have hnb118 := NB232_247.out
                          have hnc118 := NB247_232.out
                          have hcz119_0 : w101.cell? ⟨gb232, 0, none⟩ = some (.slice Ao22 t225.length co22) := (blk_cell BK232.out 0).trans rfl
                          have hcz119_1 : w101.cell? ⟨gb232, 1, none⟩ = some (.slice Ao25 t228.length co25) := (blk_cell BK232.out 1).trans rfl
                          have hfz119_0 := blk_frozen BK232.out 0
                          have hfz119_1 := blk_frozen BK232.out 1
                          go_wp2_with (first | ((with_reducible refine gate_callee (f := 19) rfl ?_); refine goesL_ (some 86) rfl rfl Try.func19 (by kernel_rfl) rfl #[.agg #[.slice Ao102 t270.length co102, .slice Ao108 t273.length co108], .agg #[.slice Ao22 t225.length co22, .slice Ao25 t228.length co25]] rfl (by (try simp only [List.map_toArray, List.map_cons, List.map_nil]); first | done | rfl | (simp only [List.length_drop, List.length_take]; rfl)) ?_; (with_reducible refine (laws_eqArray.calls kj56 _ _ t270 _ _ t273 _ _ t225 _ _ t228 true _ ?side1 ?side2 ?side3 ?side4 ?side5 ?side6 ?side7 ?side8 A109.out).mono ?_); (case side1 => refine (Kd.R_reads' (e := 3) (base := w.heap.size) (ok := fun k_ => ((((((((some k_ ≠ (.slice Ao108 t273.length co108 : Value).ownBlock ∧ some k_ ≠ (.slice Ao22 t225.length co22 : Value).ownBlock) ∧ some k_ ≠ (.slice Ao25 t228.length co25 : Value).ownBlock) ∧ some k_ ≠ (.slice Ao29 t257.length co29 : Value).ownBlock) ∧ some k_ ≠ (.slice Ao33 t258.length co33 : Value).ownBlock) ∧ some k_ ≠ (.slice Ao36 t240.length co36 : Value).ownBlock) ∧ some k_ ≠ (.slice Ao41 t243.length co41 : Value).ownBlock) ∧ some k_ ≠ (.slice Ao98 t264.length co98 : Value).ownBlock) ∧ some k_ ≠ (.slice Ao99 t267.length co99 : Value).ownBlock)) (n := t270.length) (c := co102) ?_).2.2; exact (by (with_reducible repeat (first | apply Kd.R_alloc | apply Kd.R_drewN | apply Kd.R_drew)); exact (Kd.R_mono (Kd.R_far (p := ⟨gb277, 1, none⟩) (Kd.R_far (p := ⟨gb277, 0, none⟩) (Kd.R_types HO272.out BK277.out (by decide)) (fun _ hk => hk.2) (.slice Ao102 t270.length co102)) (fun _ hk => hk.2) (.slice Ao108 t273.length co108)) (fun _ h_ => h_.1)))); (case side2 => exact (Kd.R_reads' HO272.out).2.1); (case side3 => refine (Kd.R_reads' (e := 3) (base := w.heap.size) (ok := fun k_ => ((((((((some k_ ≠ (.slice Ao102 t270.length co102 : Value).ownBlock ∧ some k_ ≠ (.slice Ao22 t225.length co22 : Value).ownBlock) ∧ some k_ ≠ (.slice Ao25 t228.length co25 : Value).ownBlock) ∧ some k_ ≠ (.slice Ao29 t257.length co29 : Value).ownBlock) ∧ some k_ ≠ (.slice Ao33 t258.length co33 : Value).ownBlock) ∧ some k_ ≠ (.slice Ao36 t240.length co36 : Value).ownBlock) ∧ some k_ ≠ (.slice Ao41 t243.length co41 : Value).ownBlock) ∧ some k_ ≠ (.slice Ao98 t264.length co98 : Value).ownBlock) ∧ some k_ ≠ (.slice Ao99 t267.length co99 : Value).ownBlock)) (n := t273.length) (c := co108) ?_).2.2; exact (by (with_reducible repeat (first | apply Kd.R_alloc | apply Kd.R_drewN | apply Kd.R_drew)); exact (Kd.R_mono (Kd.R_far (p := ⟨gb277, 1, none⟩) (Kd.R_far (p := ⟨gb277, 0, none⟩) (Kd.R_types HO275.out BK277.out (by decide)) (fun _ hk => hk.2) (.slice Ao102 t270.length co102)) (fun _ hk => hk.2) (.slice Ao108 t273.length co108)) (fun _ h_ => h_.1)))); (case side4 => exact (Kd.R_reads' HO275.out).2.1); (case side5 => refine (Kd.R_reads' (e := 3) (base := w.heap.size) (ok := fun k_ => (((((some k_ ≠ (.slice Ao25 t228.length co25 : Value).ownBlock ∧ (some k_ ≠ (.slice Ao29 t257.length co29 : Value).ownBlock ∧ (some k_ ≠ (.slice Ao33 t258.length co33 : Value).ownBlock ∧ (some k_ ≠ (.slice Ao36 t240.length co36 : Value).ownBlock ∧ some k_ ≠ (.slice Ao41 t243.length co41 : Value).ownBlock)))) ∧ some k_ ≠ (.slice Ao98 t264.length co98 : Value).ownBlock) ∧ some k_ ≠ (.slice Ao99 t267.length co99 : Value).ownBlock) ∧ some k_ ≠ (.slice Ao102 t270.length co102 : Value).ownBlock) ∧ some k_ ≠ (.slice Ao108 t273.length co108 : Value).ownBlock)) (n := t225.length) (c := co22) ?_).2.2; exact (by (with_reducible repeat (first | apply Kd.R_alloc | apply Kd.R_drewN | apply Kd.R_drew)); exact (Kd.R_mono (Kd.R_far (p := ⟨gb277, 1, none⟩) (Kd.R_far (p := ⟨gb277, 0, none⟩) (Kd.R_types HO_233000.out BK277.out (by decide)) (fun _ hk => hk.2) (.slice Ao102 t270.length co102)) (fun _ hk => hk.2) (.slice Ao108 t273.length co108)) (fun _ h_ => h_.1)))); (case side6 => exact (Kd.R_reads' HO_233000.out).2.1); (case side7 => refine (Kd.R_reads' (e := 3) (base := w.heap.size) (ok := fun k_ => (((((some k_ ≠ (.slice Ao22 t225.length co22 : Value).ownBlock ∧ (some k_ ≠ (.slice Ao29 t257.length co29 : Value).ownBlock ∧ (some k_ ≠ (.slice Ao33 t258.length co33 : Value).ownBlock ∧ (some k_ ≠ (.slice Ao36 t240.length co36 : Value).ownBlock ∧ some k_ ≠ (.slice Ao41 t243.length co41 : Value).ownBlock)))) ∧ some k_ ≠ (.slice Ao98 t264.length co98 : Value).ownBlock) ∧ some k_ ≠ (.slice Ao99 t267.length co99 : Value).ownBlock) ∧ some k_ ≠ (.slice Ao102 t270.length co102 : Value).ownBlock) ∧ some k_ ≠ (.slice Ao108 t273.length co108 : Value).ownBlock)) (n := t228.length) (c := co25) ?_).2.2; exact (by (with_reducible repeat (first | apply Kd.R_alloc | apply Kd.R_drewN | apply Kd.R_drew)); exact (Kd.R_mono (Kd.R_far (p := ⟨gb277, 1, none⟩) (Kd.R_far (p := ⟨gb277, 0, none⟩) (Kd.R_types HO_233001.out BK277.out (by decide)) (fun _ hk => hk.2) (.slice Ao102 t270.length co102)) (fun _ hk => hk.2) (.slice Ao108 t273.length co108)) (fun _ h_ => h_.1)))); (case side8 => exact (Kd.R_reads' HO_233001.out).2.1); rintro e w120 ⟨rfl, hb⟩; refine ⟨_, rfl, ?_⟩; have n0_ := Aside0.mk (Kd.R_below (by (with_reducible repeat (first | apply Kd.R_alloc | apply Kd.R_drewN | apply Kd.R_drew)); exact (Kd.R_mono (Kd.R_far (p := ⟨gb277, 1, none⟩) (Kd.R_far (p := ⟨gb277, 0, none⟩) (Kd.R_types HO_233000.out BK277.out (by decide)) (fun _ hk => hk.2) (.slice Ao102 t270.length co102)) (fun _ hk => hk.2) (.slice Ao108 t273.length co108)) (fun _ h_ => h_.1))) hb); have n1_ := Aside0.mk (Kd.R_below (by (with_reducible repeat (first | apply Kd.R_alloc | apply Kd.R_drewN | apply Kd.R_drew)); exact (Kd.R_mono (Kd.R_far (p := ⟨gb277, 1, none⟩) (Kd.R_far (p := ⟨gb277, 0, none⟩) (Kd.R_types HO_233001.out BK277.out (by decide)) (fun _ hk => hk.2) (.slice Ao102 t270.length co102)) (fun _ hk => hk.2) (.slice Ao108 t273.length co108)) (fun _ h_ => h_.1))) hb); have n2_ := Aside0.mk (Kd.R_below (by (with_reducible repeat (first | apply Kd.R_alloc | apply Kd.R_drewN | apply Kd.R_drew)); exact (Kd.R_mono (Kd.R_far (p := ⟨gb277, 1, none⟩) (Kd.R_far (p := ⟨gb277, 0, none⟩) (Kd.R_types HO_240000.out BK277.out (by decide)) (fun _ hk => hk.2) (.slice Ao102 t270.length co102)) (fun _ hk => hk.2) (.slice Ao108 t273.length co108)) (fun _ h_ => h_.1))) hb); have n3_ := Aside0.mk (Kd.R_below (by (with_reducible repeat (first | apply Kd.R_alloc | apply Kd.R_drewN | apply Kd.R_drew)); exact (Kd.R_mono (Kd.R_far (p := ⟨gb277, 1, none⟩) (Kd.R_far (p := ⟨gb277, 0, none⟩) (Kd.R_types HO_240001.out BK277.out (by decide)) (fun _ hk => hk.2) (.slice Ao102 t270.length co102)) (fun _ hk => hk.2) (.slice Ao108 t273.length co108)) (fun _ h_ => h_.1))) hb); have n4_ := Aside0.mk (Kd.R_below (by (with_reducible repeat (first | apply Kd.R_alloc | apply Kd.R_drewN | apply Kd.R_drew)); exact (Kd.R_mono (Kd.R_far (p := ⟨gb277, 1, none⟩) (Kd.R_far (p := ⟨gb277, 0, none⟩) (Kd.R_types HO_248000.out BK277.out (by decide)) (fun _ hk => hk.2) (.slice Ao102 t270.length co102)) (fun _ hk => hk.2) (.slice Ao108 t273.length co108)) (fun _ h_ => h_.1))) hb); have n5_ := Aside0.mk (Kd.R_below (by (with_reducible repeat (first | apply Kd.R_alloc | apply Kd.R_drewN | apply Kd.R_drew)); exact (Kd.R_mono (Kd.R_far (p := ⟨gb277, 1, none⟩) (Kd.R_far (p := ⟨gb277, 0, none⟩) (Kd.R_types HO_248001.out BK277.out (by decide)) (fun _ hk => hk.2) (.slice Ao102 t270.length co102)) (fun _ hk => hk.2) (.slice Ao108 t273.length co108)) (fun _ h_ => h_.1))) hb); have n6_ := Aside0.mk (Kd.R_below (by (with_reducible repeat (first | apply Kd.R_alloc | apply Kd.R_drewN | apply Kd.R_drew)); exact (Kd.R_mono (Kd.R_far (p := ⟨gb277, 1, none⟩) (Kd.R_far (p := ⟨gb277, 0, none⟩) (Kd.R_types HO266.out BK277.out (by decide)) (fun _ hk => hk.2) (.slice Ao102 t270.length co102)) (fun _ hk => hk.2) (.slice Ao108 t273.length co108)) (fun _ h_ => h_.1))) hb); have n7_ := Aside0.mk (Kd.R_below (by (with_reducible repeat (first | apply Kd.R_alloc | apply Kd.R_drewN | apply Kd.R_drew)); exact (Kd.R_mono (Kd.R_far (p := ⟨gb277, 1, none⟩) (Kd.R_far (p := ⟨gb277, 0, none⟩) (Kd.R_types HO269.out BK277.out (by decide)) (fun _ hk => hk.2) (.slice Ao102 t270.length co102)) (fun _ hk => hk.2) (.slice Ao108 t273.length co108)) (fun _ h_ => h_.1))) hb); have n8_ := Aside0.mk (Kd.R_below (by (with_reducible repeat (first | apply Kd.R_alloc | apply Kd.R_drewN | apply Kd.R_drew)); exact (Kd.R_mono (Kd.R_far (p := ⟨gb277, 1, none⟩) (Kd.R_far (p := ⟨gb277, 0, none⟩) (Kd.R_types HO272.out BK277.out (by decide)) (fun _ hk => hk.2) (.slice Ao102 t270.length co102)) (fun _ hk => hk.2) (.slice Ao108 t273.length co108)) (fun _ h_ => h_.1))) hb); have n9_ := Aside0.mk (Kd.R_below (by (with_reducible repeat (first | apply Kd.R_alloc | apply Kd.R_drewN | apply Kd.R_drew)); exact (Kd.R_mono (Kd.R_far (p := ⟨gb277, 1, none⟩) (Kd.R_far (p := ⟨gb277, 0, none⟩) (Kd.R_types HO275.out BK277.out (by decide)) (fun _ hk => hk.2) (.slice Ao102 t270.length co102)) (fun _ hk => hk.2) (.slice Ao108 t273.length co108)) (fun _ h_ => h_.1))) hb); have n10_ := Aside0.mk (blk_below (g := gb217) (o := .cells #[.slice A1_0 l1_0.length c1_0, .slice A1_1 l1_1.length c1_1] 24 (0, 0)) (by (with_reducible repeat (first | refine blk_drewN ?_ _ | refine blk_drew ?_ | refine blk_alloc ?_ _)); refine blk_far ?_ NB217_277.out _; (with_reducible repeat (first | refine blk_drewN ?_ _ | refine blk_drew ?_ | refine blk_alloc ?_ _)); refine blk_far ?_ NB217_277.out _; (with_reducible repeat (first | refine blk_drewN ?_ _ | refine blk_drew ?_ | refine blk_alloc ?_ _)); exact BK217.out) hb); have n11_ := Aside0.mk (blk_below (g := gb232) (o := .cells #[.slice Ao22 t225.length co22, .slice Ao25 t228.length co25] 26 (0, 0)) (by (with_reducible repeat (first | refine blk_drewN ?_ _ | refine blk_drew ?_ | refine blk_alloc ?_ _)); refine blk_far ?_ NB232_277.out _; (with_reducible repeat (first | refine blk_drewN ?_ _ | refine blk_drew ?_ | refine blk_alloc ?_ _)); refine blk_far ?_ NB232_277.out _; (with_reducible repeat (first | refine blk_drewN ?_ _ | refine blk_drew ?_ | refine blk_alloc ?_ _)); exact BK232.out) hb); have n12_ := Aside0.mk (blk_below (g := gb239) (o := .cells #[.slice Ao29 t257.length co29, .slice Ao33 t258.length co33] 26 (0, 0)) (by (with_reducible repeat (first | refine blk_drewN ?_ _ | refine blk_drew ?_ | refine blk_alloc ?_ _)); refine blk_far ?_ NB239_277.out _; (with_reducible repeat (first | refine blk_drewN ?_ _ | refine blk_drew ?_ | refine blk_alloc ?_ _)); refine blk_far ?_ NB239_277.out _; (with_reducible repeat (first | refine blk_drewN ?_ _ | refine blk_drew ?_ | refine blk_alloc ?_ _)); exact BK239.out) hb); have n13_ := Aside0.mk (blk_below (g := gb247) (o := .cells #[.slice Ao36 t240.length co36, .slice Ao41 t243.length co41] 26 (0, 0)) (by (with_reducible repeat (first | refine blk_drewN ?_ _ | refine blk_drew ?_ | refine blk_alloc ?_ _)); refine blk_far ?_ NB247_277.out _; (with_reducible repeat (first | refine blk_drewN ?_ _ | refine blk_drew ?_ | refine blk_alloc ?_ _)); refine blk_far ?_ NB247_277.out _; (with_reducible repeat (first | refine blk_drewN ?_ _ | refine blk_drew ?_ | refine blk_alloc ?_ _)); exact BK247.out) hb); have n14_ := Aside0.mk (blk_below (g := gb277) (o := .cells #[.slice Ao102 t270.length co102, .slice Ao108 t273.length co108] 26 (0, 0)) (by (with_reducible repeat (first | refine blk_drewN ?_ _ | refine blk_drew ?_ | refine blk_alloc ?_ _)); refine blk_put (cs := #[.slice Ao102 t270.length co102, .slice none 0 0]) ?_ 1 _ rfl; (with_reducible repeat (first | refine blk_drewN ?_ _ | refine blk_drew ?_ | refine blk_alloc ?_ _)); refine blk_put (cs := #[.slice none 0 0, .slice none 0 0]) ?_ 0 _ rfl; (with_reducible repeat (first | refine blk_drewN ?_ _ | refine blk_drew ?_ | refine blk_alloc ?_ _)); exact BK277.out) hb); have n15_ := Aside0.mk (below_step (by repeat (first | (with_reducible first | exact HB.out | apply below_alloc | apply pw_below_drewN | apply below_drew1 | refine below_set ?_ GE217.out | refine below_set ?_ GE232.out | refine below_set ?_ GE239.out | refine below_set ?_ GE247.out | refine below_set ?_ GE277.out) | exact HB.out)) hb); clear HO_233000; clear HO_233001; clear HO_240000; clear HO_240001; clear HO_248000; clear HO_248001; clear HO266; clear HO269; clear HO272; clear HO275; clear BK217; clear BK232; clear BK239; clear BK247; clear BK277; clear HB; have HO_233000 := n0_; have HO_233001 := n1_; have HO_240000 := n2_; have HO_240001 := n3_; have HO_248000 := n4_; have HO_248001 := n5_; have HO266 := n6_; have HO269 := n7_; have HO272 := n8_; have HO275 := n9_; have BK217 := n10_; have BK232 := n11_; have BK239 := n12_; have BK247 := n13_; have BK277 := n14_; have HB := n15_; clear n0_ n1_ n2_ n3_ n4_ n5_ n6_ n7_ n8_ n9_ n10_ n11_ n12_ n13_ n14_ n15_; (try clear hb); (try clear hb2); (try clear hk); (try clear hi)))
                          go_meet
                          case rel => exact ⟨_, ((t276 != t231)), (by first | rfl | (simp; done) | (simp [*]; done)), H', ⟨by have := HJ11.out; have := HJ56.out; first | omega | exact Nat.le_refl _⟩, ⟨by (try simp only [hl240000_56]); (try simp only [hl240001_56]); (with_reducible repeat (first | apply Kd.R_alloc | apply Kd.R_drewN | apply Kd.R_drew)); exact Kd.R_mono HO_233000.out (fun _ hk => ⟨hk.1.1.1.1.1, ⟨hk.1.1.1.1.2.1, ⟨hk.1.1.1.1.2.2.1, ⟨hk.1.1.1.1.2.2.2.1, ⟨hk.1.1.1.1.2.2.2.2, ⟨hk.1.2, hk.2⟩⟩⟩⟩⟩⟩)⟩, ⟨by (try simp only [hl240000_56]); (try simp only [hl240001_56]); (with_reducible repeat (first | apply Kd.R_alloc | apply Kd.R_drewN | apply Kd.R_drew)); exact Kd.R_mono HO_233001.out (fun _ hk => ⟨hk.1.1.1.1.1, ⟨hk.1.1.1.1.2.1, ⟨hk.1.1.1.1.2.2.1, ⟨hk.1.1.1.1.2.2.2.1, ⟨hk.1.1.1.1.2.2.2.2, ⟨hk.1.2, hk.2⟩⟩⟩⟩⟩⟩)⟩, ⟨by (try simp only [hl240000_56]); (try simp only [hl240001_56]); (with_reducible repeat (first | apply Kd.R_alloc | apply Kd.R_drewN | apply Kd.R_drew)); exact Kd.R_mono HO_240000.out (fun _ hk => ⟨hk.1.1.1.1.1, ⟨hk.1.1.1.1.2.1, ⟨hk.1.1.1.1.2.2.1, ⟨hk.1.1.1.1.2.2.2.1, ⟨hk.1.1.1.1.2.2.2.2, ⟨hk.1.2, hk.2⟩⟩⟩⟩⟩⟩)⟩, ⟨by (try simp only [hl240000_56]); (try simp only [hl240001_56]); (with_reducible repeat (first | apply Kd.R_alloc | apply Kd.R_drewN | apply Kd.R_drew)); exact Kd.R_mono HO_240001.out (fun _ hk => ⟨hk.1.1.1.1.1, ⟨hk.1.1.1.1.2.1, ⟨hk.1.1.1.1.2.2.1, ⟨hk.1.1.1.1.2.2.2.1, ⟨hk.1.1.1.1.2.2.2.2, ⟨hk.1.2, hk.2⟩⟩⟩⟩⟩⟩)⟩, ⟨by (try simp only [hl240000_56]); (try simp only [hl240001_56]); (with_reducible repeat (first | apply Kd.R_alloc | apply Kd.R_drewN | apply Kd.R_drew)); exact Kd.R_mono HO_248000.out (fun _ hk => ⟨hk.1.1.1.1.1, ⟨hk.1.1.1.1.2.1, ⟨hk.1.1.1.1.2.2.1, ⟨hk.1.1.1.1.2.2.2.1, ⟨hk.1.1.1.1.2.2.2.2, ⟨hk.1.2, hk.2⟩⟩⟩⟩⟩⟩)⟩, ⟨by (try simp only [hl240000_56]); (try simp only [hl240001_56]); (with_reducible repeat (first | apply Kd.R_alloc | apply Kd.R_drewN | apply Kd.R_drew)); exact Kd.R_mono HO_248001.out (fun _ hk => ⟨hk.1.1.1.1.1, ⟨hk.1.1.1.1.2.1, ⟨hk.1.1.1.1.2.2.1, ⟨hk.1.1.1.1.2.2.2.1, ⟨hk.1.1.1.1.2.2.2.2, ⟨hk.1.2, hk.2⟩⟩⟩⟩⟩⟩)⟩, ⟨by (try simp only [hl240000_56]); (try simp only [hl240001_56]); (with_reducible repeat (first | apply Kd.R_alloc | apply Kd.R_drewN | apply Kd.R_drew)); exact Kd.R_mono HO272.out (fun _ hk => ⟨hk.1.1.1.1.1.1.1.2, ⟨hk.1.1.1.1.1.1.2, ⟨hk.1.1.1.1.1.2, ⟨hk.1.1.1.1.2, ⟨hk.1.1.1.2, ⟨hk.1.1.2, hk.1.1.1.1.1.1.1.1⟩⟩⟩⟩⟩⟩)⟩, ⟨by (try simp only [hl240000_56]); (try simp only [hl240001_56]); (with_reducible repeat (first | apply Kd.R_alloc | apply Kd.R_drewN | apply Kd.R_drew)); exact Kd.R_mono HO275.out (fun _ hk => ⟨hk.1.1.1.1.1.1.1.2, ⟨hk.1.1.1.1.1.1.2, ⟨hk.1.1.1.1.1.2, ⟨hk.1.1.1.1.2, ⟨hk.1.1.1.2, ⟨hk.1.1.2, hk.1.1.1.1.1.1.1.1⟩⟩⟩⟩⟩⟩)⟩, ⟨by (try simp only [hl240000_56]); (try simp only [hl240001_56]); (with_reducible repeat (first | refine blk_drewN ?_ _ | refine blk_drew ?_ | refine blk_alloc ?_ _)); exact BK217.out⟩, ⟨by (try simp only [hl240000_56]); (try simp only [hl240001_56]); (with_reducible repeat (first | refine blk_drewN ?_ _ | refine blk_drew ?_ | refine blk_alloc ?_ _)); exact BK232.out⟩, ⟨by (try simp only [hl240000_56]); (try simp only [hl240001_56]); (with_reducible repeat (first | refine blk_drewN ?_ _ | refine blk_drew ?_ | refine blk_alloc ?_ _)); exact BK239.out⟩, ⟨by (try simp only [hl240000_56]); (try simp only [hl240001_56]); (with_reducible repeat (first | refine blk_drewN ?_ _ | refine blk_drew ?_ | refine blk_alloc ?_ _)); exact BK247.out⟩, ⟨by (try simp only [hl240000_56]); (try simp only [hl240001_56]); (with_reducible repeat (first | refine blk_drewN ?_ _ | refine blk_drew ?_ | refine blk_alloc ?_ _)); exact BK277.out⟩, ⟨by repeat (first | (with_reducible first | exact HB.out | apply below_alloc | apply pw_below_drewN | apply below_drew1 | refine below_set ?_ GE217.out | refine below_set ?_ GE232.out | refine below_set ?_ GE239.out | refine below_set ?_ GE247.out | refine below_set ?_ GE277.out) | exact HB.out)⟩⟩
                        · replace c110 := Bool.eq_false_iff.mpr c110
                          subst c110
                          have H1 : (laws_FnExactEachOne.j2 kj56 t260 true t261 t262) = some r := by rw [if_neg (show ¬ (false = true) by decide)] at H; exact H
                          clear H
                          have H := H1
                          clear H1
                          have hz_ : ∀ kz, laws_FnExactEachOne.j2 kz t260 true t261 t262 = some r → r = false := by intro kz hz; cases kz with | zero => exact absurd hz (by simp [laws_FnExactEachOne.j2]) | succ kz => simp only [laws_FnExactEachOne.j2] at hz; first | (rw [if_pos rfl] at hz; exact (Option.some.inj hz).symm) | (simp at hz; exact hz.symm) | (simp at hz; exact hz)
                          exact absurd (HT.out.symm.trans (hz_ _ H)) (by decide)
                      case rest =>
                        clear HC86
                        try clear c1
                        try clear c2
                        try clear p2
                        try clear c3
                        try clear c4
                        try clear c4b0
                        try clear c5
                        try clear c6
                        try clear c7
                        try clear c8
                        try clear c9
                        try clear c10
                        try clear c11
                        try clear c13
                        try clear c15
                        try clear c17
                        try clear c19
                        try clear c20
                        try clear c21
                        try clear c23
                        try clear c30
                        try clear c31
                        try clear c37
                        try clear c38
                        try clear c39
                        try clear c43
                        try clear c44
                        try clear c45
                        try clear c46
                        try clear c48
                        try clear c49
                        try clear c52
                        try clear c53
                        try clear c55
                        try clear c63
                        try clear c64
                        try clear c65
                        try clear c68
                        try clear c68b0
                        try clear c70
                        try clear c71
                        try clear c72
                        try clear c73
                        try clear c75
                        try clear c76
                        try clear c79
                        try clear c82
                        try clear c82b0
                        try clear c83
                        try clear c83b0
                        try clear c83b1
                        try clear c87
                        try clear c88
                        try clear c89
                        try clear c94
                        try clear c95
                        try clear c103
                        try clear c104
                        try clear c105
                        try clear c106
                        try clear c110
                        try clear c111
                        try clear c112
                        try clear c113
                        try clear c114
                        try clear c116
                        try clear c117
                        try clear c118
                        try clear hcz107_0
                        try clear hcz107_1
                        try clear hcz115_0
                        try clear hcz115_1
                        try clear hcz119_0
                        try clear hcz119_1
                        try clear hcz14_0
                        try clear hcz14_1
                        try clear hcz16_0
                        try clear hcz16_1
                        try clear hcz24_0
                        try clear hcz24_1
                        try clear hcz26_0
                        try clear hcz26_1
                        try clear hcz32_0
                        try clear hcz32_1
                        try clear hcz40_0
                        try clear hcz40_1
                        try clear hcz47_0
                        try clear hcz47_1
                        try clear hcz50_0
                        try clear hcz50_1
                        try clear hcz66_0
                        try clear hcz66_1
                        try clear hcz6_0
                        try clear hcz6_1
                        try clear hcz74_0
                        try clear hcz74_1
                        try clear hcz77_0
                        try clear hcz77_1
                        try clear hcz90_0
                        try clear hcz90_1
                        try clear hcz92_0
                        try clear hcz92_1
                        try clear hcz96_0
                        try clear hcz96_1
                        try clear hfz107_0
                        try clear hfz107_1
                        try clear hfz115_0
                        try clear hfz115_1
                        try clear hfz119_0
                        try clear hfz119_1
                        try clear hfz14_0
                        try clear hfz14_1
                        try clear hfz16_0
                        try clear hfz16_1
                        try clear hfz24_0
                        try clear hfz24_1
                        try clear hfz26_0
                        try clear hfz26_1
                        try clear hfz32_0
                        try clear hfz32_1
                        try clear hfz40_0
                        try clear hfz40_1
                        try clear hfz47_0
                        try clear hfz47_1
                        try clear hfz50_0
                        try clear hfz50_1
                        try clear hfz66_0
                        try clear hfz66_1
                        try clear hfz6_0
                        try clear hfz6_1
                        try clear hfz74_0
                        try clear hfz74_1
                        try clear hfz77_0
                        try clear hfz77_1
                        try clear hfz90_0
                        try clear hfz90_1
                        try clear hfz92_0
                        try clear hfz92_1
                        try clear hfz96_0
                        try clear hfz96_1
                        try clear p2
                        obtain ⟨kq, x92_85, rfl, HA, HJ85, HO_233000, HO_233001, HO_240000, HO_240001, HO_248000, HO_248001, HO_278000, HO_278001, BK217, BK232, BK239, BK247, BK277, HB⟩ := hcut
                        have hl248000_85 := (Kd.R_reads' HO_248000.out).1
                        rw [hl248000_85] at HO_248000
                        (try simp only [hl248000_85])
                        (try simp only [hl248000_85] at BK217)
                        (try simp only [hl248000_85] at BK232)
                        (try simp only [hl248000_85] at BK239)
                        (try simp only [hl248000_85] at BK247)
                        (try simp only [hl248000_85] at BK277)
                        (try simp only [hl248000_85] at HO_233000)
                        (try simp only [hl248000_85] at HO_233001)
                        (try simp only [hl248000_85] at HO_240000)
                        (try simp only [hl248000_85] at HO_240001)
                        (try simp only [hl248000_85] at HO_248001)
                        (try simp only [hl248000_85] at HO_278000)
                        (try simp only [hl248000_85] at HO_278001)
                        have hl248001_85 := (Kd.R_reads' HO_248001.out).1
                        rw [hl248001_85] at HO_248001
                        (try simp only [hl248001_85])
                        (try simp only [hl248001_85] at BK217)
                        (try simp only [hl248001_85] at BK232)
                        (try simp only [hl248001_85] at BK239)
                        (try simp only [hl248001_85] at BK247)
                        (try simp only [hl248001_85] at BK277)
                        (try simp only [hl248001_85] at HO_233000)
                        (try simp only [hl248001_85] at HO_233001)
                        (try simp only [hl248001_85] at HO_240000)
                        (try simp only [hl248001_85] at HO_240001)
                        (try simp only [hl248001_85] at HO_248000)
                        (try simp only [hl248001_85] at HO_278000)
                        (try simp only [hl248001_85] at HO_278001)
                        cases kq with
                        | zero => exact absurd HA.out (by simp [laws_FnExactEachOne.j2])
                        | succ kj85 =>
                          have H := HA.out
                          clear HA
                          simp only [laws_FnExactEachOne.j2] at H
                          by_cases c121 : x92_85 = true
                          · subst c121
                            have H1 : (some false) = some r := by rw [if_pos rfl] at H; exact H
                            clear H
                            have H := H1
                            clear H1
                            obtain rfl := Option.some.inj H
                            exact absurd HT.out (by decide)
                          · replace c121 := Bool.eq_false_iff.mpr c121
                            subst c121
                            have H1 : ((laws_heldArray.f kj85 t261 t262 1).bind fun t279 => (if t279 < 0 then (some false) else (if t279 = t260 then (some true) else (some false)))) = some r := by rw [if_neg (show ¬ (false = true) by decide)] at H; exact H
                            clear H
                            have H := H1
                            clear H1
                            replace H := Option.bind_eq_some_iff.mp H
                            obtain ⟨t279, A1220, H⟩ := H
                            replace H : (if t279 < 0 then (some false) else (if t279 = t260 then (some true) else (some false))) = some r := H
                            have A122 := Aside0.mk A1220
                            clear A1220
                            by_cases c123 : t279 < 0
                            · rw [if_pos c123] at H
                              have c123b0 : decide (t279 < 0) = true := decide_eq_true c123
                              clear c123
                              obtain rfl := Option.some.inj H
                              exact absurd HT.out (by decide)
                            · rw [if_neg c123] at H
                              have c123b0 : decide (t279 < 0) = false := decide_eq_false c123
                              clear c123
                              by_cases c124 : t279 = t260
                              · rw [if_pos c124] at H
                                have c124b0 : (t279 == t260) = true := beq_iff_eq.mpr c124
                                have c124b1 : (t279 != t260) = false := bne_eq_false_iff_eq.mpr c124
                                clear c124
                                obtain rfl := Option.some.inj H
                                have hnb125 := NB247_217.out
                                have hnc125 := NB217_247.out
                                have hnb126 := NB247_232.out
                                have hnc126 := NB232_247.out
                                have hnb127 := NB247_239.out
                                have hnc127 := NB239_247.out
                                have hnb128 := NB247_277.out
                                have hnc128 := NB277_247.out
                                have hcz129_0 : wc.cell? ⟨gb247, 0, none⟩ = some (.slice Ao36 t261.length co36) := (blk_cell BK247.out 0).trans rfl
                                have hcz129_1 : wc.cell? ⟨gb247, 1, none⟩ = some (.slice Ao41 t262.length co41) := (blk_cell BK247.out 1).trans rfl
                                have hfz129_0 := blk_frozen BK247.out 0
                                have hfz129_1 := blk_frozen BK247.out 1
                                go_wp2_with (first | ((with_reducible refine gate_callee (f := 21) rfl ?_); refine goesL_ (some 95) rfl rfl Try.func21 (by kernel_rfl) rfl #[.agg #[.slice Ao36 t261.length co36, .slice Ao41 t262.length co41], .int .i64 1] rfl (by (try simp only [List.map_toArray, List.map_cons, List.map_nil]); first | done | rfl | (simp only [List.length_drop, List.length_take]; rfl)) ?_; (with_reducible refine (laws_heldArray.calls kj85 _ _ t261 _ _ t262 1 t279 _ ?side1 ?side2 ?side3 ?side4 A122.out).mono ?_); (case side1 => repeat (first | exact (Kd.R_reads' HO_248000.out).2.2 | (with_reducible refine Kd.C_alloc ?_ _) | (with_reducible refine Kd.C_drewN ?_ _) | (with_reducible refine Kd.C_drew ?_))); (case side2 => exact (Kd.R_reads' HO_248000.out).2.1); (case side3 => repeat (first | exact (Kd.R_reads' HO_248001.out).2.2 | (with_reducible refine Kd.C_alloc ?_ _) | (with_reducible refine Kd.C_drewN ?_ _) | (with_reducible refine Kd.C_drew ?_))); (case side4 => exact (Kd.R_reads' HO_248001.out).2.1); rintro e w130 ⟨rfl, hb⟩; refine ⟨_, rfl, ?_⟩; have n0_ := Aside0.mk (Kd.R_below (by (with_reducible repeat (first | apply Kd.R_alloc | apply Kd.R_drewN | apply Kd.R_drew)); exact HO_233000.out) hb); have n1_ := Aside0.mk (Kd.R_below (by (with_reducible repeat (first | apply Kd.R_alloc | apply Kd.R_drewN | apply Kd.R_drew)); exact HO_233001.out) hb); have n2_ := Aside0.mk (Kd.R_below (by (with_reducible repeat (first | apply Kd.R_alloc | apply Kd.R_drewN | apply Kd.R_drew)); exact HO_240000.out) hb); have n3_ := Aside0.mk (Kd.R_below (by (with_reducible repeat (first | apply Kd.R_alloc | apply Kd.R_drewN | apply Kd.R_drew)); exact HO_240001.out) hb); have n4_ := Aside0.mk (Kd.R_below (by (with_reducible repeat (first | apply Kd.R_alloc | apply Kd.R_drewN | apply Kd.R_drew)); exact HO_248000.out) hb); have n5_ := Aside0.mk (Kd.R_below (by (with_reducible repeat (first | apply Kd.R_alloc | apply Kd.R_drewN | apply Kd.R_drew)); exact HO_248001.out) hb); have n6_ := Aside0.mk (Kd.R_below (by (with_reducible repeat (first | apply Kd.R_alloc | apply Kd.R_drewN | apply Kd.R_drew)); exact HO_278000.out) hb); have n7_ := Aside0.mk (Kd.R_below (by (with_reducible repeat (first | apply Kd.R_alloc | apply Kd.R_drewN | apply Kd.R_drew)); exact HO_278001.out) hb); have n8_ := Aside0.mk (blk_below (g := gb217) (o := .cells #[.slice A1_0 l1_0.length c1_0, .slice A1_1 l1_1.length c1_1] 24 (0, 0)) (by (with_reducible repeat (first | refine blk_drewN ?_ _ | refine blk_drew ?_ | refine blk_alloc ?_ _)); exact BK217.out) hb); have n9_ := Aside0.mk (blk_below (g := gb232) (o := .cells #[.slice Ao22 t225.length co22, .slice Ao25 t228.length co25] 26 (0, 0)) (by (with_reducible repeat (first | refine blk_drewN ?_ _ | refine blk_drew ?_ | refine blk_alloc ?_ _)); exact BK232.out) hb); have n10_ := Aside0.mk (blk_below (g := gb239) (o := .cells #[.slice Ao29 t257.length co29, .slice Ao33 t258.length co33] 26 (0, 0)) (by (with_reducible repeat (first | refine blk_drewN ?_ _ | refine blk_drew ?_ | refine blk_alloc ?_ _)); exact BK239.out) hb); have n11_ := Aside0.mk (blk_below (g := gb247) (o := .cells #[.slice Ao36 t261.length co36, .slice Ao41 t262.length co41] 26 (0, 0)) (by (with_reducible repeat (first | refine blk_drewN ?_ _ | refine blk_drew ?_ | refine blk_alloc ?_ _)); exact BK247.out) hb); have n12_ := Aside0.mk (blk_below (g := gb277) (o := .cells #[.slice Ao102 t270.length co102, .slice Ao108 t273.length co108] 26 (0, 0)) (by (with_reducible repeat (first | refine blk_drewN ?_ _ | refine blk_drew ?_ | refine blk_alloc ?_ _)); exact BK277.out) hb); have n13_ := Aside0.mk (below_step (by repeat (first | (with_reducible first | exact HB.out | apply below_alloc | apply pw_below_drewN | apply below_drew1 | refine below_set ?_ GE217.out | refine below_set ?_ GE232.out | refine below_set ?_ GE239.out | refine below_set ?_ GE247.out | refine below_set ?_ GE277.out) | exact HB.out)) hb); clear HO_233000; clear HO_233001; clear HO_240000; clear HO_240001; clear HO_248000; clear HO_248001; clear HO_278000; clear HO_278001; clear BK217; clear BK232; clear BK239; clear BK247; clear BK277; clear HB; have HO_233000 := n0_; have HO_233001 := n1_; have HO_240000 := n2_; have HO_240001 := n3_; have HO_248000 := n4_; have HO_248001 := n5_; have HO_278000 := n6_; have HO_278001 := n7_; have BK217 := n8_; have BK232 := n9_; have BK239 := n10_; have BK247 := n11_; have BK277 := n12_; have HB := n13_; clear n0_ n1_ n2_ n3_ n4_ n5_ n6_ n7_ n8_ n9_ n10_ n11_ n12_ n13_; (try clear hb); (try clear hb2); (try clear hk); (try clear hi)))
                                go_ret
                                exact ⟨by first | rfl | (simp [errW_none, errW_some] <;> rfl) | (simp [*, errW_none, errW_some] <;> rfl), by repeat (first | (with_reducible first | exact HB.out | apply below_alloc | apply pw_below_drewN | apply below_drew1 | refine below_set ?_ GE217.out | refine below_set ?_ GE232.out | refine below_set ?_ GE239.out | refine below_set ?_ GE247.out | refine below_set ?_ GE277.out) | exact HB.out)⟩
                              · rw [if_neg c124] at H
                                have c124b0 : (t279 == t260) = false := beq_eq_false_iff_ne.mpr c124
                                have c124b1 : (t279 != t260) = true := bne_iff_ne.mpr c124
                                obtain rfl := Option.some.inj H
                                exact absurd HT.out (by decide)
                    · rw [if_neg c83] at H
                      have c83b0 : (t263 == t260) = false := beq_eq_false_iff_ne.mpr c83
                      have c83b1 : (t263 != t260) = true := bne_iff_ne.mpr c83
                      obtain rfl := Option.some.inj H
                      exact absurd HT.out (by decide)
          · replace c55 := Bool.eq_false_iff.mpr c55
            subst c55
            have H1 : (some false) = some r := by rw [if_neg (show ¬ (false = true) by decide)] at H; exact H
            clear H
            have H := H1
            clear H1
            obtain rfl := Option.some.inj H
            exact absurd HT.out (by decide)

end Go.Proofs.Ytcnbajdnlkcjjaa.PFnExactEachOne
