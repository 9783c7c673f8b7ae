/- The walk of what a law reaches, for the law's row: written by a program of this session; it has no condition of its own. -/
import Derived.Test.YtcnbajdnlkcjjaaPFnExactFlipx0
import Derived.Test.YtcnbajdnlkcjjaaPFnExactFlipx1
import Derived.Test.YtcnbajdnlkcjjaaPFnExactFlipx3
import Derived.Test.YtcnbajdnlkcjjaaPFnExactFlipx5
namespace Go.Proofs.Ytcnbajdnlkcjjaa.PFnExactFlip
open Go.RowKit Go.Proofs.YtcnbajdnlkcjjaaW.PrintWords Go.Proofs.YtcnbajdnlkcjjaaW.PrintLast Go.Proofs.YtcnbajdnlkcjjaaW.PrintMore
attribute [local go_sem] max2_int min2_int max_two min_two max_three min_three max_four min_four   -- for this text's walks alone
set_option linter.unusedVariables false
set_option linter.unusedSimpArgs false

/-! ### laws_FnExactFlip: function 8 -/
mutual
def laws_FnExactFlip.j0 : Nat → Int → Int → Bool → List Int → List Int → List Int → List Int → List Int → List Int → List Int → List Int → Option (Bool)
  | 0, _, _, _, _, _, _, _, _, _, _, _ => none
  | k + 1, x5, x8, x40, x242000, x242001, x257000, x257001, x264000, x264001, x272000, x272001 => if x40 = true then (some false) else ((laws_toArray.f k x242000 x242001).bind fun bt273 => ((laws_eqArray.f k x264000 x264001 bt273.1 bt273.2).bind fun t279 => (if t279 = true then ((laws_markArray.f k x264000 x264001 1).bind fun bt280 => (if bt280.1 < 0 then (laws_FnExactFlip.j1 k x5 true x242000 x242001 x257000 x257001 x272000 x272001) else ((laws_eqArray.f k x272000 x272001 x257000 x257001).bind fun t283 => (if t283 = true then (laws_FnExactFlip.j1 k x5 (x8 != x5) x242000 x242001 x257000 x257001 x272000 x272001) else (laws_FnExactFlip.j1 k x5 true x242000 x242001 x257000 x257001 x272000 x272001))))) else (some false))))
def laws_FnExactFlip.j1 : Nat → Int → Bool → List Int → List Int → List Int → List Int → List Int → List Int → Option (Bool)
  | 0, _, _, _, _, _, _, _, _ => none
  | k + 1, x5, x61, x242000, x242001, x257000, x257001, x272000, x272001 => if x61 = true then (some false) else ((laws_markArray.f k x272000 x272001 1).bind fun bt284 => ((laws_heldArray.f k bt284.2.1 bt284.2.2 1).bind fun t287 => (if t287 < 0 then (some false) else (if t287 = bt284.1 then ((laws_toArray.f k x242000 x242001).bind fun bt288 => ((impl_Flip.f k bt288.1 bt288.2).bind fun bt294 => ((laws_eqArray.f k bt294.1 bt294.2.1 x257000 x257001).bind fun t302 => (if t302 = true then (laws_FnExactFlip.j2 k bt284.1 (bt294.2.2 != x5) bt284.2.1 bt284.2.2) else (laws_FnExactFlip.j2 k bt284.1 true bt284.2.1 bt284.2.2))))) else (some false)))))
def laws_FnExactFlip.j2 : Nat → Int → Bool → List Int → List Int → Option (Bool)
  | 0, _, _, _, _ => none
  | k + 1, x10, x87, x272000, x272001 => if x87 = true then (some false) else ((laws_heldArray.f k x272000 x272001 1).bind fun t303 => (if t303 < 0 then (some false) else (if t303 = x10 then (some true) else (some false))))
end
def laws_FnExactFlip.f (k : Nat) (l0_0 : List Int) (l0_1 : List Int) : Option (Bool) := (laws_szArray.f l0_0 l0_1 1048576).bind fun t242 => (if t242 < 0 then (some true) else ((laws_toArray.f k l0_0 l0_1).bind fun bt243 => ((spec_Flip.f k bt243.1 bt243.2).bind fun bt249 => ((laws_toArray.f k l0_0 l0_1).bind fun bt257 => ((impl_Flip.f k bt257.1 bt257.2).bind fun bt264 => ((laws_eqArray.f k bt264.1 bt264.2.1 bt249.1 bt249.2.1).bind fun t272 => (if t272 = true then (laws_FnExactFlip.j0 k bt249.2.2 bt264.2.2 (bt264.2.2 != bt249.2.2) l0_0 l0_1 bt249.1 bt249.2.1 bt257.1 bt257.2 bt264.1 bt264.2.1) else (laws_FnExactFlip.j0 k bt249.2.2 bt264.2.2 true l0_0 l0_1 bt249.1 bt249.2.1 bt257.1 bt257.2 bt264.1 bt264.2.1))))))))
theorem laws_FnExactFlip.mono_l : ∀ k, (∀ y0 y1 y2 y3 y4 y5 y6 y7 y8 y9 y10, LeO (laws_FnExactFlip.j0 k y0 y1 y2 y3 y4 y5 y6 y7 y8 y9 y10) (laws_FnExactFlip.j0 (k + 1) y0 y1 y2 y3 y4 y5 y6 y7 y8 y9 y10)) ∧ (∀ y0 y1 y2 y3 y4 y5 y6 y7, LeO (laws_FnExactFlip.j1 k y0 y1 y2 y3 y4 y5 y6 y7) (laws_FnExactFlip.j1 (k + 1) y0 y1 y2 y3 y4 y5 y6 y7)) ∧ (∀ y0 y1 y2 y3, LeO (laws_FnExactFlip.j2 k y0 y1 y2 y3) (laws_FnExactFlip.j2 (k + 1) y0 y1 y2 y3))
  | 0 => ⟨fun _ _ _ _ _ _ _ _ _ _ _ r h => by simp [laws_FnExactFlip.j0] at h, fun _ _ _ _ _ _ _ _ r h => by simp [laws_FnExactFlip.j1] at h, fun _ _ _ _ r h => by simp [laws_FnExactFlip.j2] at h⟩
  | k + 1 => by
    obtain ⟨ih0, ih1, ih2⟩ := laws_FnExactFlip.mono_l k
    refine ⟨?_, ?_, ?_⟩
    · intro y0 y1 y2 y3 y4 y5 y6 y7 y8 y9 y10
      unfold laws_FnExactFlip.j0
      repeat' first
      | (with_reducible exact ih0 _ _ _ _ _ _ _ _ _ _ _)
      | (with_reducible exact ih1 _ _ _ _ _ _ _ _)
      | (with_reducible exact ih2 _ _ _ _)
      | (with_reducible exact impl_Flip.mono _ _ _)
      | (with_reducible exact laws_eqArray.mono _ _ _ _ _)
      | (with_reducible exact laws_heldArray.mono _ _ _ _)
      | (with_reducible exact laws_markArray.mono _ _ _ _)
      | (with_reducible exact laws_toArray.mono _ _ _)
      | (with_reducible exact spec_Flip.mono _ _ _)
      | (with_reducible exact LeO.refl _)
      | (with_reducible exact LeO.none _)
      | (with_reducible refine LeO.ite ?_ ?_)
      | (with_reducible refine LeO.bind ?_ (fun _ => ?_))
      | exact ih0 _ _ _ _ _ _ _ _ _ _ _
      | exact ih1 _ _ _ _ _ _ _ _
      | exact ih2 _ _ _ _
      | exact impl_Flip.mono _ _ _
      | exact laws_eqArray.mono _ _ _ _ _
      | exact laws_heldArray.mono _ _ _ _
      | exact laws_markArray.mono _ _ _ _
      | exact laws_toArray.mono _ _ _
      | exact spec_Flip.mono _ _ _
      | exact LeO.none _
      | refine LeO.ite ?_ ?_
      | refine LeO.bind ?_ (fun _ => ?_)
    · intro y0 y1 y2 y3 y4 y5 y6 y7
      unfold laws_FnExactFlip.j1
      repeat' first
      | (with_reducible exact ih0 _ _ _ _ _ _ _ _ _ _ _)
      | (with_reducible exact ih1 _ _ _ _ _ _ _ _)
      | (with_reducible exact ih2 _ _ _ _)
      | (with_reducible exact impl_Flip.mono _ _ _)
      | (with_reducible exact laws_eqArray.mono _ _ _ _ _)
      | (with_reducible exact laws_heldArray.mono _ _ _ _)
      | (with_reducible exact laws_markArray.mono _ _ _ _)
      | (with_reducible exact laws_toArray.mono _ _ _)
      | (with_reducible exact spec_Flip.mono _ _ _)
      | (with_reducible exact LeO.refl _)
      | (with_reducible exact LeO.none _)
      | (with_reducible refine LeO.ite ?_ ?_)
      | (with_reducible refine LeO.bind ?_ (fun _ => ?_))
      | exact ih0 _ _ _ _ _ _ _ _ _ _ _
      | exact ih1 _ _ _ _ _ _ _ _
      | exact ih2 _ _ _ _
      | exact impl_Flip.mono _ _ _
      | exact laws_eqArray.mono _ _ _ _ _
      | exact laws_heldArray.mono _ _ _ _
      | exact laws_markArray.mono _ _ _ _
      | exact laws_toArray.mono _ _ _
      | exact spec_Flip.mono _ _ _
      | exact LeO.none _
      | refine LeO.ite ?_ ?_
      | refine LeO.bind ?_ (fun _ => ?_)
    · intro y0 y1 y2 y3
      unfold laws_FnExactFlip.j2
      repeat' first
      | (with_reducible exact ih0 _ _ _ _ _ _ _ _ _ _ _)
      | (with_reducible exact ih1 _ _ _ _ _ _ _ _)
      | (with_reducible exact ih2 _ _ _ _)
      | (with_reducible exact impl_Flip.mono _ _ _)
      | (with_reducible exact laws_eqArray.mono _ _ _ _ _)
      | (with_reducible exact laws_heldArray.mono _ _ _ _)
      | (with_reducible exact laws_markArray.mono _ _ _ _)
      | (with_reducible exact laws_toArray.mono _ _ _)
      | (with_reducible exact spec_Flip.mono _ _ _)
      | (with_reducible exact LeO.refl _)
      | (with_reducible exact LeO.none _)
      | (with_reducible refine LeO.ite ?_ ?_)
      | (with_reducible refine LeO.bind ?_ (fun _ => ?_))
      | exact ih0 _ _ _ _ _ _ _ _ _ _ _
      | exact ih1 _ _ _ _ _ _ _ _
      | exact ih2 _ _ _ _
      | exact impl_Flip.mono _ _ _
      | exact laws_eqArray.mono _ _ _ _ _
      | exact laws_heldArray.mono _ _ _ _
      | exact laws_markArray.mono _ _ _ _
      | exact laws_toArray.mono _ _ _
      | exact spec_Flip.mono _ _ _
      | exact LeO.none _
      | refine LeO.ite ?_ ?_
      | refine LeO.bind ?_ (fun _ => ?_)
theorem laws_FnExactFlip.mono : ∀ a0 a1 k, LeO (laws_FnExactFlip.f k a0 a1) (laws_FnExactFlip.f (k + 1) a0 a1) := by
  intro a0 a1 k
  obtain ⟨ih0, ih1, ih2⟩ := laws_FnExactFlip.mono_l k
  unfold laws_FnExactFlip.f
  repeat' first
      | (with_reducible exact ih0 _ _ _ _ _ _ _ _ _ _ _)
      | (with_reducible exact ih1 _ _ _ _ _ _ _ _)
      | (with_reducible exact ih2 _ _ _ _)
      | (with_reducible exact impl_Flip.mono _ _ _)
      | (with_reducible exact laws_eqArray.mono _ _ _ _ _)
      | (with_reducible exact laws_heldArray.mono _ _ _ _)
      | (with_reducible exact laws_markArray.mono _ _ _ _)
      | (with_reducible exact laws_toArray.mono _ _ _)
      | (with_reducible exact spec_Flip.mono _ _ _)
      | (with_reducible exact LeO.refl _)
      | (with_reducible exact LeO.none _)
      | (with_reducible refine LeO.ite ?_ ?_)
      | (with_reducible refine LeO.bind ?_ (fun _ => ?_))
      | exact ih0 _ _ _ _ _ _ _ _ _ _ _
      | exact ih1 _ _ _ _ _ _ _ _
      | exact ih2 _ _ _ _
      | exact impl_Flip.mono _ _ _
      | exact laws_eqArray.mono _ _ _ _ _
      | exact laws_heldArray.mono _ _ _ _
      | exact laws_markArray.mono _ _ _ _
      | exact laws_toArray.mono _ _ _
      | exact spec_Flip.mono _ _ _
      | exact LeO.none _
      | refine LeO.ite ?_ ?_
      | refine LeO.bind ?_ (fun _ => ?_)
set_option maxHeartbeats 8000000 in
set_option maxRecDepth 100000 in
theorem laws_FnExactFlip.calls (k : Nat) (A0_0 : Option Addr) (c0_0 : Nat) (l0_0 : List Int) (A0_1 : Option Addr) (c0_1 : Nat) (l0_1 : List Int) (r : Bool) (w : World) (hr0_0 : Kd.C (Kd.int .i64) w A0_0 l0_0.length l0_0) (hc0_0 : l0_0.length ≤ c0_0) (hr0_1 : Kd.C (Kd.int .i64) w A0_1 l0_1.length l0_1) (hc0_1 : l0_1.length ≤ c0_1) (h : laws_FnExactFlip.f k l0_0 l0_1 = some r) (hT : r = true) :
    Calls Try.prog 8 #[.agg #[.slice A0_0 l0_0.length c0_0, .slice A0_1 l0_1.length c0_1]] w fun e w' => e = .returned (.bool r) ∧ Below w.heap.size w w' := by
  have HT := Aside0.mk hT
  clear hT
  have hu24 := Try.underlying24
  have hu26 := Try.underlying26
  have HR0_0 := Aside0.mk hr0_0
  have HC0_0 := Aside0.mk hc0_0
  clear hr0_0 hc0_0
  have HR0_1 := Aside0.mk hr0_1
  have HC0_1 := Aside0.mk hc0_1
  clear hr0_1 hc0_1
  have HB := Aside0.mk (Below.refl w.heap.size w)
  have H : ((laws_szArray.f l0_0 l0_1 1048576).bind fun t242 => (if t242 < 0 then (some true) else ((laws_toArray.f k l0_0 l0_1).bind fun bt243 => ((spec_Flip.f k bt243.1 bt243.2).bind fun bt249 => ((laws_toArray.f k l0_0 l0_1).bind fun bt257 => ((impl_Flip.f k bt257.1 bt257.2).bind fun bt264 => ((laws_eqArray.f k bt264.1 bt264.2.1 bt249.1 bt249.2.1).bind fun t272 => (if t272 = true then (laws_FnExactFlip.j0 k bt249.2.2 bt264.2.2 (bt264.2.2 != bt249.2.2) l0_0 l0_1 bt249.1 bt249.2.1 bt257.1 bt257.2 bt264.1 bt264.2.1) else (laws_FnExactFlip.j0 k bt249.2.2 bt264.2.2 true l0_0 l0_1 bt249.1 bt249.2.1 bt257.1 bt257.2 bt264.1 bt264.2.1))))))))) = some r := h
  clear h
  replace H := Option.bind_eq_some_iff.mp H
  obtain ⟨t242, A20, H⟩ := H
  replace H : (if t242 < 0 then (some true) else ((laws_toArray.f k l0_0 l0_1).bind fun bt243 => ((spec_Flip.f k bt243.1 bt243.2).bind fun bt249 => ((laws_toArray.f k l0_0 l0_1).bind fun bt257 => ((impl_Flip.f k bt257.1 bt257.2).bind fun bt264 => ((laws_eqArray.f k bt264.1 bt264.2.1 bt249.1 bt249.2.1).bind fun t272 => (if t272 = true then (laws_FnExactFlip.j0 k bt249.2.2 bt264.2.2 (bt264.2.2 != bt249.2.2) l0_0 l0_1 bt249.1 bt249.2.1 bt257.1 bt257.2 bt264.1 bt264.2.1) else (laws_FnExactFlip.j0 k bt249.2.2 bt264.2.2 true l0_0 l0_1 bt249.1 bt249.2.1 bt257.1 bt257.2 bt264.1 bt264.2.1)))))))) = some r := H
  have A2 := Aside0.mk A20
  clear A20
  by_cases c3 : t242 < 0
  · rw [if_pos c3] at H
    have c3b0 : decide (t242 < 0) = true := decide_eq_true c3
    clear c3
    obtain rfl := Option.some.inj H
    go_enter Try.func8, Try.ntmps8
    go_wp2_with (first | ((with_reducible refine gate_dst (N := 1) rfl ?_); refine box_event ?hg (N := 1) ?hd (cs := #[.slice A0_0 l0_0.length c0_0, .slice A0_1 l0_1.length c0_1]) (t := 24) ?hr ?_; (case hd => rfl); (case hg => rfl); (case hr => first | (go_simp; done) | (go_simp; rfl)); intro gb241 hg w4 hbox hb; have n0_ := Aside0.mk (below_step (by repeat (first | (with_reducible first | exact HB.out | apply below_alloc | apply pw_below_drewN | apply below_drew1) | exact HB.out)) hb); have n1_ := Aside0.mk (hbox); have n2_ := Aside0.mk ((by rw [hg]; exact (below_size (by repeat (first | (with_reducible first | exact HB.out | apply below_alloc | apply pw_below_drewN | apply below_drew1) | exact HB.out))) : w.heap.size ≤ gb241)); have n3_ := Aside0.mk ((by rw [hg]; exact (below_size (by repeat (first | (with_reducible first | exact HB.out | apply below_alloc | apply pw_below_drewN | apply below_drew1) | exact HB.out))) : w.heap.size ≤ gb241)); clear HB; have HB := n0_; have BK241 := n1_; have GW241 := n2_; have GE241 := n3_; clear n0_ n1_ n2_ n3_; clear hb hbox hg; have hcz5_0 : w4.cell? ⟨gb241, 0, none⟩ = some (.slice A0_0 l0_0.length c0_0) := (blk_cell BK241.out 0).trans rfl; have hcz5_1 : w4.cell? ⟨gb241, 1, none⟩ = some (.slice A0_1 l0_1.length c0_1) := (blk_cell BK241.out 1).trans rfl; have hfz5_0 := blk_frozen BK241.out 0; have hfz5_1 := blk_frozen BK241.out 1) | ((with_reducible refine gate_callee (f := 15) rfl ?_); refine goesL_ (some 16) rfl rfl Try.func15 (by kernel_rfl) rfl #[.agg #[.slice A0_0 l0_0.length c0_0, .slice A0_1 l0_1.length c0_1], .int .i64 1048576] rfl (by (try simp only [List.map_toArray, List.map_cons, List.map_nil]); first | done | rfl | (simp only [List.length_drop, List.length_take]; rfl)) ?_; (with_reducible refine (laws_szArray.calls _ _ l0_0 _ _ l0_1 1048576 t242 _ ?side1 ?side2 ?side3 ?side4 A2.out).mono ?_); (case side1 => repeat (first | exact (Kd.C_below HR0_0.out HB.out) | (with_reducible refine Kd.C_alloc ?_ _) | (with_reducible refine Kd.C_drewN ?_ _) | (with_reducible refine Kd.C_drew ?_))); (case side2 => exact HC0_0.out); (case side3 => repeat (first | exact (Kd.C_below HR0_1.out HB.out) | (with_reducible refine Kd.C_alloc ?_ _) | (with_reducible refine Kd.C_drewN ?_ _) | (with_reducible refine Kd.C_drew ?_))); (case side4 => exact HC0_1.out); rintro e w6 ⟨rfl, hb⟩; refine ⟨_, rfl, ?_⟩; have n0_ := Aside0.mk (blk_below (g := gb241) (o := .cells #[.slice A0_0 l0_0.length c0_0, .slice A0_1 l0_1.length c0_1] 24 (0, 0)) (by (with_reducible repeat (first | refine blk_drewN ?_ _ | refine blk_drew ?_ | refine blk_alloc ?_ _)); exact BK241.out) hb); have n1_ := Aside0.mk (below_step (by repeat (first | (with_reducible first | exact HB.out | apply below_alloc | apply pw_below_drewN | apply below_drew1 | refine below_set ?_ GE241.out) | exact HB.out)) hb); clear BK241; clear HB; have BK241 := n0_; have HB := n1_; clear n0_ n1_; (try clear hb); (try clear hb2); (try clear hk); (try clear hi)))
    go_ret
    exact ⟨by first | rfl | (simp [errW_none, errW_some] <;> rfl) | (simp [*, errW_none, errW_some] <;> rfl), by repeat (first | (with_reducible first | exact HB.out | apply below_alloc | apply pw_below_drewN | apply below_drew1 | refine below_set ?_ GE241.out) | exact HB.out)⟩
  · rw [if_neg c3] at H
    have c3b0 : decide (t242 < 0) = false := decide_eq_false c3
    clear c3
    replace H := Option.bind_eq_some_iff.mp H
    obtain ⟨⟨t243, t246⟩, A70, H⟩ := H
    replace H : ((spec_Flip.f k t243 t246).bind fun bt249 => ((laws_toArray.f k l0_0 l0_1).bind fun bt257 => ((impl_Flip.f k bt257.1 bt257.2).bind fun bt264 => ((laws_eqArray.f k bt264.1 bt264.2.1 bt249.1 bt249.2.1).bind fun t272 => (if t272 = true then (laws_FnExactFlip.j0 k bt249.2.2 bt264.2.2 (bt264.2.2 != bt249.2.2) l0_0 l0_1 bt249.1 bt249.2.1 bt257.1 bt257.2 bt264.1 bt264.2.1) else (laws_FnExactFlip.j0 k bt249.2.2 bt264.2.2 true l0_0 l0_1 bt249.1 bt249.2.1 bt257.1 bt257.2 bt264.1 bt264.2.1)))))) = some r := H
    have A7 := Aside0.mk A70
    clear A70
    replace H := Option.bind_eq_some_iff.mp H
    obtain ⟨⟨t249, t252, t255⟩, A80, H⟩ := H
    replace H : ((laws_toArray.f k l0_0 l0_1).bind fun bt257 => ((impl_Flip.f k bt257.1 bt257.2).bind fun bt264 => ((laws_eqArray.f k bt264.1 bt264.2.1 t249 t252).bind fun t272 => (if t272 = true then (laws_FnExactFlip.j0 k t255 bt264.2.2 (bt264.2.2 != t255) l0_0 l0_1 t249 t252 bt257.1 bt257.2 bt264.1 bt264.2.1) else (laws_FnExactFlip.j0 k t255 bt264.2.2 true l0_0 l0_1 t249 t252 bt257.1 bt257.2 bt264.1 bt264.2.1))))) = some r := H
    have A8 := Aside0.mk A80
    clear A80
    replace H := Option.bind_eq_some_iff.mp H
    obtain ⟨⟨t257, t260⟩, A90, H⟩ := H
    replace H : ((impl_Flip.f k t257 t260).bind fun bt264 => ((laws_eqArray.f k bt264.1 bt264.2.1 t249 t252).bind fun t272 => (if t272 = true then (laws_FnExactFlip.j0 k t255 bt264.2.2 (bt264.2.2 != t255) l0_0 l0_1 t249 t252 t257 t260 bt264.1 bt264.2.1) else (laws_FnExactFlip.j0 k t255 bt264.2.2 true l0_0 l0_1 t249 t252 t257 t260 bt264.1 bt264.2.1)))) = some r := H
    have A9 := Aside0.mk A90
    clear A90
    replace H := Option.bind_eq_some_iff.mp H
    obtain ⟨⟨t264, t267, t270⟩, A100, H⟩ := H
    replace H : ((laws_eqArray.f k t264 t267 t249 t252).bind fun t272 => (if t272 = true then (laws_FnExactFlip.j0 k t255 t270 (t270 != t255) l0_0 l0_1 t249 t252 t257 t260 t264 t267) else (laws_FnExactFlip.j0 k t255 t270 true l0_0 l0_1 t249 t252 t257 t260 t264 t267))) = some r := H
    have A10 := Aside0.mk A100
    clear A100
    have HC11 := Aside0.mk H
    clear H
    go_enter Try.func8, Try.ntmps8
    go_upto_region 8 with (first | ((with_reducible refine gate_dst (N := 1) rfl ?_); refine box_event ?hg (N := 1) ?hd (cs := #[.slice A0_0 l0_0.length c0_0, .slice A0_1 l0_1.length c0_1]) (t := 24) ?hr ?_; (case hd => rfl); (case hg => rfl); (case hr => first | (go_simp; done) | (go_simp; rfl)); intro gb241 hg w12 hbox hb; have n0_ := Aside0.mk (below_step (by repeat (first | (with_reducible first | exact HB.out | apply below_alloc | apply pw_below_drewN | apply below_drew1) | exact HB.out)) hb); have n1_ := Aside0.mk (hbox); have n2_ := Aside0.mk ((by rw [hg]; exact (below_size (by repeat (first | (with_reducible first | exact HB.out | apply below_alloc | apply pw_below_drewN | apply below_drew1) | exact HB.out))) : w.heap.size ≤ gb241)); have n3_ := Aside0.mk ((by rw [hg]; exact (below_size (by repeat (first | (with_reducible first | exact HB.out | apply below_alloc | apply pw_below_drewN | apply below_drew1) | exact HB.out))) : w.heap.size ≤ gb241)); clear HB; have HB := n0_; have BK241 := n1_; have GW241 := n2_; have GE241 := n3_; clear n0_ n1_ n2_ n3_; clear hb hbox hg; have hcz13_0 : w12.cell? ⟨gb241, 0, none⟩ = some (.slice A0_0 l0_0.length c0_0) := (blk_cell BK241.out 0).trans rfl; have hcz13_1 : w12.cell? ⟨gb241, 1, none⟩ = some (.slice A0_1 l0_1.length c0_1) := (blk_cell BK241.out 1).trans rfl; have hfz13_0 := blk_frozen BK241.out 0; have hfz13_1 := blk_frozen BK241.out 1) | ((with_reducible refine gate_callee (f := 15) rfl ?_); refine goesL_ (some 16) rfl rfl Try.func15 (by kernel_rfl) rfl #[.agg #[.slice A0_0 l0_0.length c0_0, .slice A0_1 l0_1.length c0_1], .int .i64 1048576] rfl (by (try simp only [List.map_toArray, List.map_cons, List.map_nil]); first | done | rfl | (simp only [List.length_drop, List.length_take]; rfl)) ?_; (with_reducible refine (laws_szArray.calls _ _ l0_0 _ _ l0_1 1048576 t242 _ ?side1 ?side2 ?side3 ?side4 A2.out).mono ?_); (case side1 => repeat (first | exact (Kd.C_below HR0_0.out HB.out) | (with_reducible refine Kd.C_alloc ?_ _) | (with_reducible refine Kd.C_drewN ?_ _) | (with_reducible refine Kd.C_drew ?_))); (case side2 => exact HC0_0.out); (case side3 => repeat (first | exact (Kd.C_below HR0_1.out HB.out) | (with_reducible refine Kd.C_alloc ?_ _) | (with_reducible refine Kd.C_drewN ?_ _) | (with_reducible refine Kd.C_drew ?_))); (case side4 => exact HC0_1.out); rintro e w14 ⟨rfl, hb⟩; refine ⟨_, rfl, ?_⟩; have n0_ := Aside0.mk (blk_below (g := gb241) (o := .cells #[.slice A0_0 l0_0.length c0_0, .slice A0_1 l0_1.length c0_1] 24 (0, 0)) (by (with_reducible repeat (first | refine blk_drewN ?_ _ | refine blk_drew ?_ | refine blk_alloc ?_ _)); exact BK241.out) hb); have n1_ := Aside0.mk (below_step (by repeat (first | (with_reducible first | exact HB.out | apply below_alloc | apply pw_below_drewN | apply below_drew1 | refine below_set ?_ GE241.out) | exact HB.out)) hb); clear BK241; clear HB; have BK241 := n0_; have HB := n1_; clear n0_ n1_; (try clear hb); (try clear hb2); (try clear hk); (try clear hi); have hcz15_0 : w14.cell? ⟨gb241, 0, none⟩ = some (.slice A0_0 l0_0.length c0_0) := (blk_cell BK241.out 0).trans rfl; have hcz15_1 : w14.cell? ⟨gb241, 1, none⟩ = some (.slice A0_1 l0_1.length c0_1) := (blk_cell BK241.out 1).trans rfl; have hfz15_0 := blk_frozen BK241.out 0; have hfz15_1 := blk_frozen BK241.out 1) | ((with_reducible refine gate_callee (f := 17) rfl ?_); refine goesL_ (some 21) rfl rfl Try.func17 (by kernel_rfl) rfl #[.agg #[.slice A0_0 l0_0.length c0_0, .slice A0_1 l0_1.length c0_1]] rfl (by (try simp only [List.map_toArray, List.map_cons, List.map_nil]); first | done | rfl | (simp only [List.length_drop, List.length_take]; rfl)) ?_; (with_reducible refine (laws_toArray.calls k _ _ l0_0 _ _ l0_1 t243 t246 _ ?side1 ?side2 ?side3 ?side4 A7.out).mono ?_); (case side1 => repeat (first | exact (Kd.C_below HR0_0.out HB.out) | (with_reducible refine Kd.C_alloc ?_ _) | (with_reducible refine Kd.C_drewN ?_ _) | (with_reducible refine Kd.C_drew ?_))); (case side2 => exact HC0_0.out); (case side3 => repeat (first | exact (Kd.C_below HR0_1.out HB.out) | (with_reducible refine Kd.C_alloc ?_ _) | (with_reducible refine Kd.C_drewN ?_ _) | (with_reducible refine Kd.C_drew ?_))); (case side4 => exact HC0_1.out); rintro e w16 ⟨v244, v247, rfl, ho0, ho1, hb⟩; refine ⟨_, rfl, ?_⟩; have n0_ := Aside0.mk (Kd.R_lower ho0 (below_size (by repeat (first | (with_reducible first | exact HB.out | apply below_alloc | apply pw_below_drewN | apply below_drew1 | refine below_set ?_ GE241.out) | exact HB.out)))); have n1_ := Aside0.mk (Kd.R_lower ho1 (below_size (by repeat (first | (with_reducible first | exact HB.out | apply below_alloc | apply pw_below_drewN | apply below_drew1 | refine below_set ?_ GE241.out) | exact HB.out)))); have n2_ := Aside0.mk (blk_below (g := gb241) (o := .cells #[.slice A0_0 l0_0.length c0_0, .slice A0_1 l0_1.length c0_1] 24 (0, 0)) (by (with_reducible repeat (first | refine blk_drewN ?_ _ | refine blk_drew ?_ | refine blk_alloc ?_ _)); exact BK241.out) hb); have n3_ := Aside0.mk (below_step (by repeat (first | (with_reducible first | exact HB.out | apply below_alloc | apply pw_below_drewN | apply below_drew1 | refine below_set ?_ GE241.out) | exact HB.out)) hb); clear BK241; clear HB; have HO245 := n0_; have HO248 := n1_; have BK241 := n2_; have HB := n3_; clear n0_ n1_ n2_ n3_; (try clear hb); (try clear hb2); (try clear hk); (try clear hi); (try clear ho0); (try clear ho1); obtain ⟨Ao17, co17, eo17⟩ := Kd.R_slice HO245.out; subst eo17; obtain ⟨Ao18, co18, eo18⟩ := Kd.R_slice HO248.out; subst eo18) | ((with_reducible refine gate_callee (f := 41) rfl ?_); refine goesL_ (some 22) rfl rfl Try.func41 (by kernel_rfl) rfl #[.agg #[.slice Ao17 t243.length co17, .slice Ao18 t246.length co18]] rfl (by (try simp only [List.map_toArray, List.map_cons, List.map_nil]); first | done | rfl | (simp only [List.length_drop, List.length_take]; rfl)) ?_; (with_reducible refine (spec_Flip.calls k _ _ t243 _ _ t246 t249 t252 t255 _ ?side1 ?side2 ?side3 ?side4 A8.out).mono ?_); (case side1 => repeat (first | exact (Kd.R_reads' HO245.out).2.2 | (with_reducible refine Kd.C_alloc ?_ _) | (with_reducible refine Kd.C_drewN ?_ _) | (with_reducible refine Kd.C_drew ?_))); (case side2 => exact (Kd.R_reads' HO245.out).2.1); (case side3 => repeat (first | exact (Kd.R_reads' HO248.out).2.2 | (with_reducible refine Kd.C_alloc ?_ _) | (with_reducible refine Kd.C_drewN ?_ _) | (with_reducible refine Kd.C_drew ?_))); (case side4 => exact (Kd.R_reads' HO248.out).2.1); rintro e w19 ⟨v250, v253, rfl, ho0, ho1, hb⟩; refine ⟨_, rfl, ?_⟩; have n0_ := Aside0.mk (Kd.R_mono (Kd.R_told (Kd.R_told (Kd.R_old (by (with_reducible repeat (first | apply Kd.R_alloc | apply Kd.R_drewN | apply Kd.R_drew)); exact HO245.out) hb) (Kd.R_base ho0)) (Kd.R_base ho1)) (fun _ h_ => h_.1)); have n1_ := Aside0.mk (Kd.R_mono (Kd.R_told (Kd.R_told (Kd.R_old (by (with_reducible repeat (first | apply Kd.R_alloc | apply Kd.R_drewN | apply Kd.R_drew)); exact HO248.out) hb) (Kd.R_base ho0)) (Kd.R_base ho1)) (fun _ h_ => h_.1)); have n2_ := Aside0.mk (Kd.R_lower (Kd.R_new' (Kd.R_new' ho0 (Kd.R_lt (by (with_reducible repeat (first | apply Kd.R_alloc | apply Kd.R_drewN | apply Kd.R_drew)); exact HO245.out))) (Kd.R_lt (by (with_reducible repeat (first | apply Kd.R_alloc | apply Kd.R_drewN | apply Kd.R_drew)); exact HO248.out))) (below_size (by repeat (first | (with_reducible first | exact HB.out | apply below_alloc | apply pw_below_drewN | apply below_drew1 | refine below_set ?_ GE241.out) | exact HB.out)))); have n3_ := Aside0.mk (Kd.R_lower (Kd.R_new' (Kd.R_new' ho1 (Kd.R_lt (by (with_reducible repeat (first | apply Kd.R_alloc | apply Kd.R_drewN | apply Kd.R_drew)); exact HO245.out))) (Kd.R_lt (by (with_reducible repeat (first | apply Kd.R_alloc | apply Kd.R_drewN | apply Kd.R_drew)); exact HO248.out))) (below_size (by repeat (first | (with_reducible first | exact HB.out | apply below_alloc | apply pw_below_drewN | apply below_drew1 | refine below_set ?_ GE241.out) | exact HB.out)))); have n4_ := Aside0.mk (blk_below (g := gb241) (o := .cells #[.slice A0_0 l0_0.length c0_0, .slice A0_1 l0_1.length c0_1] 24 (0, 0)) (by (with_reducible repeat (first | refine blk_drewN ?_ _ | refine blk_drew ?_ | refine blk_alloc ?_ _)); exact BK241.out) hb); have n5_ := Aside0.mk (below_step (by repeat (first | (with_reducible first | exact HB.out | apply below_alloc | apply pw_below_drewN | apply below_drew1 | refine below_set ?_ GE241.out) | exact HB.out)) hb); clear HO245; clear HO248; clear BK241; clear HB; have HO245 := n0_; have HO248 := n1_; have HO251 := n2_; have HO254 := n3_; have BK241 := n4_; have HB := n5_; clear n0_ n1_ n2_ n3_ n4_ n5_; (try clear hb); (try clear hb2); (try clear hk); (try clear hi); (try clear ho0); (try clear ho1)) | ((with_reducible refine gate_dst (N := 4) rfl ?_); refine box_event ?hg (N := 4) ?hd (cs := #[.slice none 0 0, .slice none 0 0]) (t := 26) ?hr ?_; (case hd => rfl); (case hg => rfl); (case hr => first | (go_simp; done) | (go_simp; rfl)); intro gb256 hg w20 hbox hb; have n0_ := Aside0.mk (Kd.R_below (by (with_reducible repeat (first | apply Kd.R_alloc | apply Kd.R_drewN | apply Kd.R_drew)); exact HO245.out) hb); have n1_ := Aside0.mk (Kd.R_below (by (with_reducible repeat (first | apply Kd.R_alloc | apply Kd.R_drewN | apply Kd.R_drew)); exact HO248.out) hb); have n2_ := Aside0.mk (Kd.R_below (by (with_reducible repeat (first | apply Kd.R_alloc | apply Kd.R_drewN | apply Kd.R_drew)); exact HO251.out) hb); have n3_ := Aside0.mk (Kd.R_below (by (with_reducible repeat (first | apply Kd.R_alloc | apply Kd.R_drewN | apply Kd.R_drew)); exact HO254.out) hb); have n4_ := Aside0.mk (blk_below (g := gb241) (o := .cells #[.slice A0_0 l0_0.length c0_0, .slice A0_1 l0_1.length c0_1] 24 (0, 0)) (by (with_reducible repeat (first | refine blk_drewN ?_ _ | refine blk_drew ?_ | refine blk_alloc ?_ _)); exact BK241.out) hb); have n5_ := Aside0.mk (below_step (by repeat (first | (with_reducible first | exact HB.out | apply below_alloc | apply pw_below_drewN | apply below_drew1 | refine below_set ?_ GE241.out) | exact HB.out)) hb); have n6_ := Aside0.mk (hbox); have n7_ := Aside0.mk ((by rw [hg]; exact (below_size (by repeat (first | (with_reducible first | exact HB.out | apply below_alloc | apply pw_below_drewN | apply below_drew1 | refine below_set ?_ GE241.out) | exact HB.out))) : w.heap.size ≤ gb256)); have n8_ := Aside0.mk ((by rw [hg]; exact (below_size (by repeat (first | (with_reducible first | exact HB.out | apply below_alloc | apply pw_below_drewN | apply below_drew1 | refine below_set ?_ GE241.out) | exact HB.out))) : w.heap.size ≤ gb256)); have n9_ := Aside0.mk ((by rw [hg]; exact Nat.ne_of_lt (blk_lt (g := gb241) (o := .cells #[.slice A0_0 l0_0.length c0_0, .slice A0_1 l0_1.length c0_1] 24 (0, 0)) (by (with_reducible repeat (first | refine blk_drewN ?_ _ | refine blk_drew ?_ | refine blk_alloc ?_ _)); exact BK241.out)) : gb241 ≠ gb256)); have n10_ := Aside0.mk ((by rw [hg]; exact Nat.ne_of_gt (blk_lt (g := gb241) (o := .cells #[.slice A0_0 l0_0.length c0_0, .slice A0_1 l0_1.length c0_1] 24 (0, 0)) (by (with_reducible repeat (first | refine blk_drewN ?_ _ | refine blk_drew ?_ | refine blk_alloc ?_ _)); exact BK241.out)) : gb256 ≠ gb241)); clear HO245; clear HO248; clear HO251; clear HO254; clear BK241; clear HB; have HO245 := n0_; have HO248 := n1_; have HO251 := n2_; have HO254 := n3_; have BK241 := n4_; have HB := n5_; have BK256 := n6_; have GW256 := n7_; have GE256 := n8_; have NB241_256 := n9_; have NB256_241 := n10_; clear n0_ n1_ n2_ n3_ n4_ n5_ n6_ n7_ n8_ n9_ n10_; clear hb hbox hg; obtain ⟨Ao21, co21, eo21⟩ := Kd.R_slice HO251.out; subst eo21; have hnb22 := NB256_241.out; have hnc22 := NB241_256.out; have hcz23_0 : w20.cell? ⟨gb256, 0, none⟩ = some (.slice none 0 0) := (blk_cell BK256.out 0).trans rfl; have hcz23_1 : w20.cell? ⟨gb256, 1, none⟩ = some (.slice none 0 0) := (blk_cell BK256.out 1).trans rfl; have hfz23_0 := blk_frozen BK256.out 0; have hfz23_1 := blk_frozen BK256.out 1; obtain ⟨Ao24, co24, eo24⟩ := Kd.R_slice HO254.out; subst eo24; have hcz25_0 : w20.cell? ⟨gb241, 0, none⟩ = some (.slice A0_0 l0_0.length c0_0) := (blk_cell BK241.out 0).trans rfl; have hcz25_1 : w20.cell? ⟨gb241, 1, none⟩ = some (.slice A0_1 l0_1.length c0_1) := (blk_cell BK241.out 1).trans rfl; have hfz25_0 := blk_frozen BK241.out 0; have hfz25_1 := blk_frozen BK241.out 1) | ((with_reducible refine gate_callee (f := 17) rfl ?_); refine goesL_ (some 26) rfl rfl Try.func17 (by kernel_rfl) rfl #[.agg #[.slice A0_0 l0_0.length c0_0, .slice A0_1 l0_1.length c0_1]] rfl (by (try simp only [List.map_toArray, List.map_cons, List.map_nil]); first | done | rfl | (simp only [List.length_drop, List.length_take]; rfl)) ?_; (with_reducible refine (laws_toArray.calls k _ _ l0_0 _ _ l0_1 t257 t260 _ ?side1 ?side2 ?side3 ?side4 A9.out).mono ?_); (case side1 => exact Kd.C_below HR0_0.out (by repeat (first | (with_reducible first | exact HB.out | apply below_alloc | apply pw_below_drewN | apply below_drew1 | refine below_set ?_ GE241.out | refine below_set ?_ GE256.out) | exact HB.out))); (case side2 => exact HC0_0.out); (case side3 => exact Kd.C_below HR0_1.out (by repeat (first | (with_reducible first | exact HB.out | apply below_alloc | apply pw_below_drewN | apply below_drew1 | refine below_set ?_ GE241.out | refine below_set ?_ GE256.out) | exact HB.out))); (case side4 => exact HC0_1.out); rintro e w26 ⟨v258, v261, rfl, ho0, ho1, hb⟩; refine ⟨_, rfl, ?_⟩; have n0_ := Aside0.mk (Kd.R_mono (Kd.R_told (Kd.R_told (Kd.R_old (by (with_reducible repeat (first | apply Kd.R_alloc | apply Kd.R_drewN | apply Kd.R_drew)); exact (Kd.R_mono (Kd.R_far (p := ⟨gb256, 1, none⟩) (Kd.R_far (p := ⟨gb256, 0, none⟩) (Kd.R_types HO245.out BK256.out (by decide)) (fun _ hk => hk.2) (.slice Ao21 t249.length co21)) (fun _ hk => hk.2) (.slice Ao24 t252.length co24)) (fun _ h_ => h_.1))) hb) (Kd.R_base ho0)) (Kd.R_base ho1)) (fun _ h_ => h_.1)); have n1_ := Aside0.mk (Kd.R_mono (Kd.R_told (Kd.R_told (Kd.R_old (by (with_reducible repeat (first | apply Kd.R_alloc | apply Kd.R_drewN | apply Kd.R_drew)); exact (Kd.R_mono (Kd.R_far (p := ⟨gb256, 1, none⟩) (Kd.R_far (p := ⟨gb256, 0, none⟩) (Kd.R_types HO248.out BK256.out (by decide)) (fun _ hk => hk.2) (.slice Ao21 t249.length co21)) (fun _ hk => hk.2) (.slice Ao24 t252.length co24)) (fun _ h_ => h_.1))) hb) (Kd.R_base ho0)) (Kd.R_base ho1)) (fun _ h_ => h_.1)); have n2_ := Aside0.mk (Kd.R_mono (Kd.R_told (Kd.R_told (Kd.R_old (by (with_reducible repeat (first | apply Kd.R_alloc | apply Kd.R_drewN | apply Kd.R_drew)); exact (Kd.R_mono (Kd.R_far (p := ⟨gb256, 1, none⟩) (Kd.R_far (p := ⟨gb256, 0, none⟩) (Kd.R_types HO251.out BK256.out (by decide)) (fun _ hk => hk.2) (.slice Ao21 t249.length co21)) (fun _ hk => hk.2) (.slice Ao24 t252.length co24)) (fun _ h_ => h_.1))) hb) (Kd.R_base ho0)) (Kd.R_base ho1)) (fun _ h_ => h_.1)); have n3_ := Aside0.mk (Kd.R_mono (Kd.R_told (Kd.R_told (Kd.R_old (by (with_reducible repeat (first | apply Kd.R_alloc | apply Kd.R_drewN | apply Kd.R_drew)); exact (Kd.R_mono (Kd.R_far (p := ⟨gb256, 1, none⟩) (Kd.R_far (p := ⟨gb256, 0, none⟩) (Kd.R_types HO254.out BK256.out (by decide)) (fun _ hk => hk.2) (.slice Ao21 t249.length co21)) (fun _ hk => hk.2) (.slice Ao24 t252.length co24)) (fun _ h_ => h_.1))) hb) (Kd.R_base ho0)) (Kd.R_base ho1)) (fun _ h_ => h_.1)); have n4_ := Aside0.mk (Kd.R_lower (Kd.R_new' (Kd.R_new' (Kd.R_new' (Kd.R_new' ho0 (Kd.R_lt (by (with_reducible repeat (first | apply Kd.R_alloc | apply Kd.R_drewN | apply Kd.R_drew)); exact (Kd.R_mono (Kd.R_far (p := ⟨gb256, 1, none⟩) (Kd.R_far (p := ⟨gb256, 0, none⟩) (Kd.R_types HO245.out BK256.out (by decide)) (fun _ hk => hk.2) (.slice Ao21 t249.length co21)) (fun _ hk => hk.2) (.slice Ao24 t252.length co24)) (fun _ h_ => h_.1))))) (Kd.R_lt (by (with_reducible repeat (first | apply Kd.R_alloc | apply Kd.R_drewN | apply Kd.R_drew)); exact (Kd.R_mono (Kd.R_far (p := ⟨gb256, 1, none⟩) (Kd.R_far (p := ⟨gb256, 0, none⟩) (Kd.R_types HO248.out BK256.out (by decide)) (fun _ hk => hk.2) (.slice Ao21 t249.length co21)) (fun _ hk => hk.2) (.slice Ao24 t252.length co24)) (fun _ h_ => h_.1))))) (Kd.R_lt (by (with_reducible repeat (first | apply Kd.R_alloc | apply Kd.R_drewN | apply Kd.R_drew)); exact (Kd.R_mono (Kd.R_far (p := ⟨gb256, 1, none⟩) (Kd.R_far (p := ⟨gb256, 0, none⟩) (Kd.R_types HO251.out BK256.out (by decide)) (fun _ hk => hk.2) (.slice Ao21 t249.length co21)) (fun _ hk => hk.2) (.slice Ao24 t252.length co24)) (fun _ h_ => h_.1))))) (Kd.R_lt (by (with_reducible repeat (first | apply Kd.R_alloc | apply Kd.R_drewN | apply Kd.R_drew)); exact (Kd.R_mono (Kd.R_far (p := ⟨gb256, 1, none⟩) (Kd.R_far (p := ⟨gb256, 0, none⟩) (Kd.R_types HO254.out BK256.out (by decide)) (fun _ hk => hk.2) (.slice Ao21 t249.length co21)) (fun _ hk => hk.2) (.slice Ao24 t252.length co24)) (fun _ h_ => h_.1))))) (below_size (by repeat (first | (with_reducible first | exact HB.out | apply below_alloc | apply pw_below_drewN | apply below_drew1 | refine below_set ?_ GE241.out | refine below_set ?_ GE256.out) | exact HB.out)))); have n5_ := Aside0.mk (Kd.R_lower (Kd.R_new' (Kd.R_new' (Kd.R_new' (Kd.R_new' ho1 (Kd.R_lt (by (with_reducible repeat (first | apply Kd.R_alloc | apply Kd.R_drewN | apply Kd.R_drew)); exact (Kd.R_mono (Kd.R_far (p := ⟨gb256, 1, none⟩) (Kd.R_far (p := ⟨gb256, 0, none⟩) (Kd.R_types HO245.out BK256.out (by decide)) (fun _ hk => hk.2) (.slice Ao21 t249.length co21)) (fun _ hk => hk.2) (.slice Ao24 t252.length co24)) (fun _ h_ => h_.1))))) (Kd.R_lt (by (with_reducible repeat (first | apply Kd.R_alloc | apply Kd.R_drewN | apply Kd.R_drew)); exact (Kd.R_mono (Kd.R_far (p := ⟨gb256, 1, none⟩) (Kd.R_far (p := ⟨gb256, 0, none⟩) (Kd.R_types HO248.out BK256.out (by decide)) (fun _ hk => hk.2) (.slice Ao21 t249.length co21)) (fun _ hk => hk.2) (.slice Ao24 t252.length co24)) (fun _ h_ => h_.1))))) (Kd.R_lt (by (with_reducible repeat (first | apply Kd.R_alloc | apply Kd.R_drewN | apply Kd.R_drew)); exact (Kd.R_mono (Kd.R_far (p := ⟨gb256, 1, none⟩) (Kd.R_far (p := ⟨gb256, 0, none⟩) (Kd.R_types HO251.out BK256.out (by decide)) (fun _ hk => hk.2) (.slice Ao21 t249.length co21)) (fun _ hk => hk.2) (.slice Ao24 t252.length co24)) (fun _ h_ => h_.1))))) (Kd.R_lt (by (with_reducible repeat (first | apply Kd.R_alloc | apply Kd.R_drewN | apply Kd.R_drew)); exact (Kd.R_mono (Kd.R_far (p := ⟨gb256, 1, none⟩) (Kd.R_far (p := ⟨gb256, 0, none⟩) (Kd.R_types HO254.out BK256.out (by decide)) (fun _ hk => hk.2) (.slice Ao21 t249.length co21)) (fun _ hk => hk.2) (.slice Ao24 t252.length co24)) (fun _ h_ => h_.1))))) (below_size (by repeat (first | (with_reducible first | exact HB.out | apply below_alloc | apply pw_below_drewN | apply below_drew1 | refine below_set ?_ GE241.out | refine below_set ?_ GE256.out) | exact HB.out)))); have n6_ := Aside0.mk (blk_below (g := gb241) (o := .cells #[.slice A0_0 l0_0.length c0_0, .slice A0_1 l0_1.length c0_1] 24 (0, 0)) (by (with_reducible repeat (first | refine blk_drewN ?_ _ | refine blk_drew ?_ | refine blk_alloc ?_ _)); refine blk_far ?_ NB241_256.out _; (with_reducible repeat (first | refine blk_drewN ?_ _ | refine blk_drew ?_ | refine blk_alloc ?_ _)); refine blk_far ?_ NB241_256.out _; (with_reducible repeat (first | refine blk_drewN ?_ _ | refine blk_drew ?_ | refine blk_alloc ?_ _)); exact BK241.out) hb); have n7_ := Aside0.mk (blk_below (g := gb256) (o := .cells #[.slice Ao21 t249.length co21, .slice Ao24 t252.length co24] 26 (0, 0)) (by (with_reducible repeat (first | refine blk_drewN ?_ _ | refine blk_drew ?_ | refine blk_alloc ?_ _)); refine blk_put (cs := #[.slice Ao21 t249.length co21, .slice none 0 0]) ?_ 1 _ rfl; (with_reducible repeat (first | refine blk_drewN ?_ _ | refine blk_drew ?_ | refine blk_alloc ?_ _)); refine blk_put (cs := #[.slice none 0 0, .slice none 0 0]) ?_ 0 _ rfl; (with_reducible repeat (first | refine blk_drewN ?_ _ | refine blk_drew ?_ | refine blk_alloc ?_ _)); exact BK256.out) hb); have n8_ := Aside0.mk (below_step (by repeat (first | (with_reducible first | exact HB.out | apply below_alloc | apply pw_below_drewN | apply below_drew1 | refine below_set ?_ GE241.out | refine below_set ?_ GE256.out) | exact HB.out)) hb); clear HO245; clear HO248; clear HO251; clear HO254; clear BK241; clear BK256; clear HB; have HO245 := n0_; have HO248 := n1_; have HO251 := n2_; have HO254 := n3_; have HO259 := n4_; have HO262 := n5_; have BK241 := n6_; have BK256 := n7_; have HB := n8_; clear n0_ n1_ n2_ n3_ n4_ n5_ n6_ n7_ n8_; (try clear hb); (try clear hb2); (try clear hk); (try clear hi); (try clear ho0); (try clear ho1)) | ((with_reducible refine gate_dst (N := 6) rfl ?_); refine box_event ?hg (N := 6) ?hd (cs := #[.slice none 0 0, .slice none 0 0]) (t := 26) ?hr ?_; (case hd => rfl); (case hg => rfl); (case hr => first | (go_simp; done) | (go_simp; rfl)); intro gb263 hg w27 hbox hb; have n0_ := Aside0.mk (Kd.R_below (by (with_reducible repeat (first | apply Kd.R_alloc | apply Kd.R_drewN | apply Kd.R_drew)); exact HO245.out) hb); have n1_ := Aside0.mk (Kd.R_below (by (with_reducible repeat (first | apply Kd.R_alloc | apply Kd.R_drewN | apply Kd.R_drew)); exact HO248.out) hb); have n2_ := Aside0.mk (Kd.R_below (by (with_reducible repeat (first | apply Kd.R_alloc | apply Kd.R_drewN | apply Kd.R_drew)); exact HO251.out) hb); have n3_ := Aside0.mk (Kd.R_below (by (with_reducible repeat (first | apply Kd.R_alloc | apply Kd.R_drewN | apply Kd.R_drew)); exact HO254.out) hb); have n4_ := Aside0.mk (Kd.R_below (by (with_reducible repeat (first | apply Kd.R_alloc | apply Kd.R_drewN | apply Kd.R_drew)); exact HO259.out) hb); have n5_ := Aside0.mk (Kd.R_below (by (with_reducible repeat (first | apply Kd.R_alloc | apply Kd.R_drewN | apply Kd.R_drew)); exact HO262.out) hb); have n6_ := Aside0.mk (blk_below (g := gb241) (o := .cells #[.slice A0_0 l0_0.length c0_0, .slice A0_1 l0_1.length c0_1] 24 (0, 0)) (by (with_reducible repeat (first | refine blk_drewN ?_ _ | refine blk_drew ?_ | refine blk_alloc ?_ _)); exact BK241.out) hb); have n7_ := Aside0.mk (blk_below (g := gb256) (o := .cells #[.slice Ao21 t249.length co21, .slice Ao24 t252.length co24] 26 (0, 0)) (by (with_reducible repeat (first | refine blk_drewN ?_ _ | refine blk_drew ?_ | refine blk_alloc ?_ _)); exact BK256.out) hb); have n8_ := Aside0.mk (below_step (by repeat (first | (with_reducible first | exact HB.out | apply below_alloc | apply pw_below_drewN | apply below_drew1 | refine below_set ?_ GE241.out | refine below_set ?_ GE256.out) | exact HB.out)) hb); have n9_ := Aside0.mk (hbox); have n10_ := Aside0.mk ((by rw [hg]; exact (below_size (by repeat (first | (with_reducible first | exact HB.out | apply below_alloc | apply pw_below_drewN | apply below_drew1 | refine below_set ?_ GE241.out | refine below_set ?_ GE256.out) | exact HB.out))) : w.heap.size ≤ gb263)); have n11_ := Aside0.mk ((by rw [hg]; exact (below_size (by repeat (first | (with_reducible first | exact HB.out | apply below_alloc | apply pw_below_drewN | apply below_drew1 | refine below_set ?_ GE241.out | refine below_set ?_ GE256.out) | exact HB.out))) : w.heap.size ≤ gb263)); have n12_ := Aside0.mk ((by rw [hg]; exact Nat.ne_of_lt (blk_lt (g := gb241) (o := .cells #[.slice A0_0 l0_0.length c0_0, .slice A0_1 l0_1.length c0_1] 24 (0, 0)) (by (with_reducible repeat (first | refine blk_drewN ?_ _ | refine blk_drew ?_ | refine blk_alloc ?_ _)); exact BK241.out)) : gb241 ≠ gb263)); have n13_ := Aside0.mk ((by rw [hg]; exact Nat.ne_of_gt (blk_lt (g := gb241) (o := .cells #[.slice A0_0 l0_0.length c0_0, .slice A0_1 l0_1.length c0_1] 24 (0, 0)) (by (with_reducible repeat (first | refine blk_drewN ?_ _ | refine blk_drew ?_ | refine blk_alloc ?_ _)); exact BK241.out)) : gb263 ≠ gb241)); have n14_ := Aside0.mk ((by rw [hg]; exact Nat.ne_of_lt (blk_lt (g := gb256) (o := .cells #[.slice Ao21 t249.length co21, .slice Ao24 t252.length co24] 26 (0, 0)) (by (with_reducible repeat (first | refine blk_drewN ?_ _ | refine blk_drew ?_ | refine blk_alloc ?_ _)); exact BK256.out)) : gb256 ≠ gb263)); have n15_ := Aside0.mk ((by rw [hg]; exact Nat.ne_of_gt (blk_lt (g := gb256) (o := .cells #[.slice Ao21 t249.length co21, .slice Ao24 t252.length co24] 26 (0, 0)) (by (with_reducible repeat (first | refine blk_drewN ?_ _ | refine blk_drew ?_ | refine blk_alloc ?_ _)); exact BK256.out)) : gb263 ≠ gb256)); clear HO245; clear HO248; clear HO251; clear HO254; clear HO259; clear HO262; clear BK241; clear BK256; clear HB; have HO245 := n0_; have HO248 := n1_; have HO251 := n2_; have HO254 := n3_; have HO259 := n4_; have HO262 := n5_; have BK241 := n6_; have BK256 := n7_; have HB := n8_; have BK263 := n9_; have GW263 := n10_; have GE263 := n11_; have NB241_263 := n12_; have NB263_241 := n13_; have NB256_263 := n14_; have NB263_256 := n15_; clear n0_ n1_ n2_ n3_ n4_ n5_ n6_ n7_ n8_ n9_ n10_ n11_ n12_ n13_ n14_ n15_; clear hb hbox hg; obtain ⟨Ao28, co28, eo28⟩ := Kd.R_slice HO259.out; subst eo28; have hnb29 := NB263_241.out; have hnc29 := NB241_263.out; have hnb30 := NB263_256.out; have hnc30 := NB256_263.out; have hcz31_0 : w27.cell? ⟨gb263, 0, none⟩ = some (.slice none 0 0) := (blk_cell BK263.out 0).trans rfl; have hcz31_1 : w27.cell? ⟨gb263, 1, none⟩ = some (.slice none 0 0) := (blk_cell BK263.out 1).trans rfl; have hfz31_0 := blk_frozen BK263.out 0; have hfz31_1 := blk_frozen BK263.out 1; obtain ⟨Ao32, co32, eo32⟩ := Kd.R_slice HO262.out; subst eo32) | ((with_reducible refine gate_callee (f := 42) rfl ?_); refine goesL_ (some 29) rfl rfl Try.func42 (by kernel_rfl) rfl #[.agg #[.slice Ao28 t257.length co28, .slice Ao32 t260.length co32]] rfl (by (try simp only [List.map_toArray, List.map_cons, List.map_nil]); first | done | rfl | (simp only [List.length_drop, List.length_take]; rfl)) ?_; (with_reducible refine (impl_Flip.calls k _ _ t257 _ _ t260 t264 t267 t270 _ ?side1 ?side2 ?side3 ?side4 A10.out).mono ?_); (case side1 => refine (Kd.R_reads' (e := 3) (base := w.heap.size) (ok := fun k_ => ((((some k_ ≠ (.slice Ao32 t260.length co32 : Value).ownBlock ∧ some k_ ≠ (.slice Ao17 t243.length co17 : Value).ownBlock) ∧ some k_ ≠ (.slice Ao18 t246.length co18 : Value).ownBlock) ∧ some k_ ≠ (.slice Ao21 t249.length co21 : Value).ownBlock) ∧ some k_ ≠ (.slice Ao24 t252.length co24 : Value).ownBlock)) (n := t257.length) (c := co28) ?_).2.2; exact (by (with_reducible repeat (first | apply Kd.R_alloc | apply Kd.R_drewN | apply Kd.R_drew)); exact (Kd.R_mono (Kd.R_far (p := ⟨gb263, 1, none⟩) (Kd.R_far (p := ⟨gb263, 0, none⟩) (Kd.R_types HO259.out BK263.out (by decide)) (fun _ hk => hk.2) (.slice Ao28 t257.length co28)) (fun _ hk => hk.2) (.slice Ao32 t260.length co32)) (fun _ h_ => h_.1)))); (case side2 => exact (Kd.R_reads' HO259.out).2.1); (case side3 => refine (Kd.R_reads' (e := 3) (base := w.heap.size) (ok := fun k_ => ((((some k_ ≠ (.slice Ao28 t257.length co28 : Value).ownBlock ∧ some k_ ≠ (.slice Ao17 t243.length co17 : Value).ownBlock) ∧ some k_ ≠ (.slice Ao18 t246.length co18 : Value).ownBlock) ∧ some k_ ≠ (.slice Ao21 t249.length co21 : Value).ownBlock) ∧ some k_ ≠ (.slice Ao24 t252.length co24 : Value).ownBlock)) (n := t260.length) (c := co32) ?_).2.2; exact (by (with_reducible repeat (first | apply Kd.R_alloc | apply Kd.R_drewN | apply Kd.R_drew)); exact (Kd.R_mono (Kd.R_far (p := ⟨gb263, 1, none⟩) (Kd.R_far (p := ⟨gb263, 0, none⟩) (Kd.R_types HO262.out BK263.out (by decide)) (fun _ hk => hk.2) (.slice Ao28 t257.length co28)) (fun _ hk => hk.2) (.slice Ao32 t260.length co32)) (fun _ h_ => h_.1)))); (case side4 => exact (Kd.R_reads' HO262.out).2.1); rintro e w33 ⟨v265, v268, rfl, ho0, ho1, hb⟩; refine ⟨_, rfl, ?_⟩; have n0_ := Aside0.mk (Kd.R_mono (Kd.R_told (Kd.R_told (Kd.R_old (by (with_reducible repeat (first | apply Kd.R_alloc | apply Kd.R_drewN | apply Kd.R_drew)); exact (Kd.R_mono (Kd.R_far (p := ⟨gb263, 1, none⟩) (Kd.R_far (p := ⟨gb263, 0, none⟩) (Kd.R_types HO245.out BK263.out (by decide)) (fun _ hk => hk.2) (.slice Ao28 t257.length co28)) (fun _ hk => hk.2) (.slice Ao32 t260.length co32)) (fun _ h_ => h_.1))) hb) (Kd.R_base ho0)) (Kd.R_base ho1)) (fun _ h_ => h_.1)); have n1_ := Aside0.mk (Kd.R_mono (Kd.R_told (Kd.R_told (Kd.R_old (by (with_reducible repeat (first | apply Kd.R_alloc | apply Kd.R_drewN | apply Kd.R_drew)); exact (Kd.R_mono (Kd.R_far (p := ⟨gb263, 1, none⟩) (Kd.R_far (p := ⟨gb263, 0, none⟩) (Kd.R_types HO248.out BK263.out (by decide)) (fun _ hk => hk.2) (.slice Ao28 t257.length co28)) (fun _ hk => hk.2) (.slice Ao32 t260.length co32)) (fun _ h_ => h_.1))) hb) (Kd.R_base ho0)) (Kd.R_base ho1)) (fun _ h_ => h_.1)); have n2_ := Aside0.mk (Kd.R_mono (Kd.R_told (Kd.R_told (Kd.R_old (by (with_reducible repeat (first | apply Kd.R_alloc | apply Kd.R_drewN | apply Kd.R_drew)); exact (Kd.R_mono (Kd.R_far (p := ⟨gb263, 1, none⟩) (Kd.R_far (p := ⟨gb263, 0, none⟩) (Kd.R_types HO251.out BK263.out (by decide)) (fun _ hk => hk.2) (.slice Ao28 t257.length co28)) (fun _ hk => hk.2) (.slice Ao32 t260.length co32)) (fun _ h_ => h_.1))) hb) (Kd.R_base ho0)) (Kd.R_base ho1)) (fun _ h_ => h_.1)); have n3_ := Aside0.mk (Kd.R_mono (Kd.R_told (Kd.R_told (Kd.R_old (by (with_reducible repeat (first | apply Kd.R_alloc | apply Kd.R_drewN | apply Kd.R_drew)); exact (Kd.R_mono (Kd.R_far (p := ⟨gb263, 1, none⟩) (Kd.R_far (p := ⟨gb263, 0, none⟩) (Kd.R_types HO254.out BK263.out (by decide)) (fun _ hk => hk.2) (.slice Ao28 t257.length co28)) (fun _ hk => hk.2) (.slice Ao32 t260.length co32)) (fun _ h_ => h_.1))) hb) (Kd.R_base ho0)) (Kd.R_base ho1)) (fun _ h_ => h_.1)); have n4_ := Aside0.mk (Kd.R_mono (Kd.R_told (Kd.R_told (Kd.R_old (by (with_reducible repeat (first | apply Kd.R_alloc | apply Kd.R_drewN | apply Kd.R_drew)); exact (Kd.R_mono (Kd.R_far (p := ⟨gb263, 1, none⟩) (Kd.R_far (p := ⟨gb263, 0, none⟩) (Kd.R_types HO259.out BK263.out (by decide)) (fun _ hk => hk.2) (.slice Ao28 t257.length co28)) (fun _ hk => hk.2) (.slice Ao32 t260.length co32)) (fun _ h_ => h_.1))) hb) (Kd.R_base ho0)) (Kd.R_base ho1)) (fun _ h_ => h_.1)); have n5_ := Aside0.mk (Kd.R_mono (Kd.R_told (Kd.R_told (Kd.R_old (by (with_reducible repeat (first | apply Kd.R_alloc | apply Kd.R_drewN | apply Kd.R_drew)); exact (Kd.R_mono (Kd.R_far (p := ⟨gb263, 1, none⟩) (Kd.R_far (p := ⟨gb263, 0, none⟩) (Kd.R_types HO262.out BK263.out (by decide)) (fun _ hk => hk.2) (.slice Ao28 t257.length co28)) (fun _ hk => hk.2) (.slice Ao32 t260.length co32)) (fun _ h_ => h_.1))) hb) (Kd.R_base ho0)) (Kd.R_base ho1)) (fun _ h_ => h_.1)); have n6_ := Aside0.mk (Kd.R_lower (Kd.R_new' (Kd.R_new' (Kd.R_new' (Kd.R_new' (Kd.R_new' (Kd.R_new' ho0 (Kd.R_lt (by (with_reducible repeat (first | apply Kd.R_alloc | apply Kd.R_drewN | apply Kd.R_drew)); exact (Kd.R_mono (Kd.R_far (p := ⟨gb263, 1, none⟩) (Kd.R_far (p := ⟨gb263, 0, none⟩) (Kd.R_types HO245.out BK263.out (by decide)) (fun _ hk => hk.2) (.slice Ao28 t257.length co28)) (fun _ hk => hk.2) (.slice Ao32 t260.length co32)) (fun _ h_ => h_.1))))) (Kd.R_lt (by (with_reducible repeat (first | apply Kd.R_alloc | apply Kd.R_drewN | apply Kd.R_drew)); exact (Kd.R_mono (Kd.R_far (p := ⟨gb263, 1, none⟩) (Kd.R_far (p := ⟨gb263, 0, none⟩) (Kd.R_types HO248.out BK263.out (by decide)) (fun _ hk => hk.2) (.slice Ao28 t257.length co28)) (fun _ hk => hk.2) (.slice Ao32 t260.length co32)) (fun _ h_ => h_.1))))) (Kd.R_lt (by (with_reducible repeat (first | apply Kd.R_alloc | apply Kd.R_drewN | apply Kd.R_drew)); exact (Kd.R_mono (Kd.R_far (p := ⟨gb263, 1, none⟩) (Kd.R_far (p := ⟨gb263, 0, none⟩) (Kd.R_types HO251.out BK263.out (by decide)) (fun _ hk => hk.2) (.slice Ao28 t257.length co28)) (fun _ hk => hk.2) (.slice Ao32 t260.length co32)) (fun _ h_ => h_.1))))) (Kd.R_lt (by (with_reducible repeat (first | apply Kd.R_alloc | apply Kd.R_drewN | apply Kd.R_drew)); exact (Kd.R_mono (Kd.R_far (p := ⟨gb263, 1, none⟩) (Kd.R_far (p := ⟨gb263, 0, none⟩) (Kd.R_types HO254.out BK263.out (by decide)) (fun _ hk => hk.2) (.slice Ao28 t257.length co28)) (fun _ hk => hk.2) (.slice Ao32 t260.length co32)) (fun _ h_ => h_.1))))) (Kd.R_lt (by (with_reducible repeat (first | apply Kd.R_alloc | apply Kd.R_drewN | apply Kd.R_drew)); exact (Kd.R_mono (Kd.R_far (p := ⟨gb263, 1, none⟩) (Kd.R_far (p := ⟨gb263, 0, none⟩) (Kd.R_types HO259.out BK263.out (by decide)) (fun _ hk => hk.2) (.slice Ao28 t257.length co28)) (fun _ hk => hk.2) (.slice Ao32 t260.length co32)) (fun _ h_ => h_.1))))) (Kd.R_lt (by (with_reducible repeat (first | apply Kd.R_alloc | apply Kd.R_drewN | apply Kd.R_drew)); exact (Kd.R_mono (Kd.R_far (p := ⟨gb263, 1, none⟩) (Kd.R_far (p := ⟨gb263, 0, none⟩) (Kd.R_types HO262.out BK263.out (by decide)) (fun _ hk => hk.2) (.slice Ao28 t257.length co28)) (fun _ hk => hk.2) (.slice Ao32 t260.length co32)) (fun _ h_ => h_.1))))) (below_size (by repeat (first | (with_reducible first | exact HB.out | apply below_alloc | apply pw_below_drewN | apply below_drew1 | refine below_set ?_ GE241.out | refine below_set ?_ GE256.out | refine below_set ?_ GE263.out) | exact HB.out)))); have n7_ := Aside0.mk (Kd.R_lower (Kd.R_new' (Kd.R_new' (Kd.R_new' (Kd.R_new' (Kd.R_new' (Kd.R_new' ho1 (Kd.R_lt (by (with_reducible repeat (first | apply Kd.R_alloc | apply Kd.R_drewN | apply Kd.R_drew)); exact (Kd.R_mono (Kd.R_far (p := ⟨gb263, 1, none⟩) (Kd.R_far (p := ⟨gb263, 0, none⟩) (Kd.R_types HO245.out BK263.out (by decide)) (fun _ hk => hk.2) (.slice Ao28 t257.length co28)) (fun _ hk => hk.2) (.slice Ao32 t260.length co32)) (fun _ h_ => h_.1))))) (Kd.R_lt (by (with_reducible repeat (first | apply Kd.R_alloc | apply Kd.R_drewN | apply Kd.R_drew)); exact (Kd.R_mono (Kd.R_far (p := ⟨gb263, 1, none⟩) (Kd.R_far (p := ⟨gb263, 0, none⟩) (Kd.R_types HO248.out BK263.out (by decide)) (fun _ hk => hk.2) (.slice Ao28 t257.length co28)) (fun _ hk => hk.2) (.slice Ao32 t260.length co32)) (fun _ h_ => h_.1))))) (Kd.R_lt (by (with_reducible repeat (first | apply Kd.R_alloc | apply Kd.R_drewN | apply Kd.R_drew)); exact (Kd.R_mono (Kd.R_far (p := ⟨gb263, 1, none⟩) (Kd.R_far (p := ⟨gb263, 0, none⟩) (Kd.R_types HO251.out BK263.out (by decide)) (fun _ hk => hk.2) (.slice Ao28 t257.length co28)) (fun _ hk => hk.2) (.slice Ao32 t260.length co32)) (fun _ h_ => h_.1))))) (Kd.R_lt (by (with_reducible repeat (first | apply Kd.R_alloc | apply Kd.R_drewN | apply Kd.R_drew)); exact (Kd.R_mono (Kd.R_far (p := ⟨gb263, 1, none⟩) (Kd.R_far (p := ⟨gb263, 0, none⟩) (Kd.R_types HO254.out BK263.out (by decide)) (fun _ hk => hk.2) (.slice Ao28 t257.length co28)) (fun _ hk => hk.2) (.slice Ao32 t260.length co32)) (fun _ h_ => h_.1))))) (Kd.R_lt (by (with_reducible repeat (first | apply Kd.R_alloc | apply Kd.R_drewN | apply Kd.R_drew)); exact (Kd.R_mono (Kd.R_far (p := ⟨gb263, 1, none⟩) (Kd.R_far (p := ⟨gb263, 0, none⟩) (Kd.R_types HO259.out BK263.out (by decide)) (fun _ hk => hk.2) (.slice Ao28 t257.length co28)) (fun _ hk => hk.2) (.slice Ao32 t260.length co32)) (fun _ h_ => h_.1))))) (Kd.R_lt (by (with_reducible repeat (first | apply Kd.R_alloc | apply Kd.R_drewN | apply Kd.R_drew)); exact (Kd.R_mono (Kd.R_far (p := ⟨gb263, 1, none⟩) (Kd.R_far (p := ⟨gb263, 0, none⟩) (Kd.R_types HO262.out BK263.out (by decide)) (fun _ hk => hk.2) (.slice Ao28 t257.length co28)) (fun _ hk => hk.2) (.slice Ao32 t260.length co32)) (fun _ h_ => h_.1))))) (below_size (by repeat (first | (with_reducible first | exact HB.out | apply below_alloc | apply pw_below_drewN | apply below_drew1 | refine below_set ?_ GE241.out | refine below_set ?_ GE256.out | refine below_set ?_ GE263.out) | exact HB.out)))); have n8_ := Aside0.mk (blk_below (g := gb241) (o := .cells #[.slice A0_0 l0_0.length c0_0, .slice A0_1 l0_1.length c0_1] 24 (0, 0)) (by (with_reducible repeat (first | refine blk_drewN ?_ _ | refine blk_drew ?_ | refine blk_alloc ?_ _)); refine blk_far ?_ NB241_263.out _; (with_reducible repeat (first | refine blk_drewN ?_ _ | refine blk_drew ?_ | refine blk_alloc ?_ _)); refine blk_far ?_ NB241_263.out _; (with_reducible repeat (first | refine blk_drewN ?_ _ | refine blk_drew ?_ | refine blk_alloc ?_ _)); exact BK241.out) hb); have n9_ := Aside0.mk (blk_below (g := gb256) (o := .cells #[.slice Ao21 t249.length co21, .slice Ao24 t252.length co24] 26 (0, 0)) (by (with_reducible repeat (first | refine blk_drewN ?_ _ | refine blk_drew ?_ | refine blk_alloc ?_ _)); refine blk_far ?_ NB256_263.out _; (with_reducible repeat (first | refine blk_drewN ?_ _ | refine blk_drew ?_ | refine blk_alloc ?_ _)); refine blk_far ?_ NB256_263.out _; (with_reducible repeat (first | refine blk_drewN ?_ _ | refine blk_drew ?_ | refine blk_alloc ?_ _)); exact BK256.out) hb); have n10_ := Aside0.mk (blk_below (g := gb263) (o := .cells #[.slice Ao28 t257.length co28, .slice Ao32 t260.length co32] 26 (0, 0)) (by (with_reducible repeat (first | refine blk_drewN ?_ _ | refine blk_drew ?_ | refine blk_alloc ?_ _)); refine blk_put (cs := #[.slice Ao28 t257.length co28, .slice none 0 0]) ?_ 1 _ rfl; (with_reducible repeat (first | refine blk_drewN ?_ _ | refine blk_drew ?_ | refine blk_alloc ?_ _)); refine blk_put (cs := #[.slice none 0 0, .slice none 0 0]) ?_ 0 _ rfl; (with_reducible repeat (first | refine blk_drewN ?_ _ | refine blk_drew ?_ | refine blk_alloc ?_ _)); exact BK263.out) hb); have n11_ := Aside0.mk (below_step (by repeat (first | (with_reducible first | exact HB.out | apply below_alloc | apply pw_below_drewN | apply below_drew1 | refine below_set ?_ GE241.out | refine below_set ?_ GE256.out | refine below_set ?_ GE263.out) | exact HB.out)) hb); clear HO245; clear HO248; clear HO251; clear HO254; clear HO259; clear HO262; clear BK241; clear BK256; clear BK263; clear HB; have HO245 := n0_; have HO248 := n1_; have HO251 := n2_; have HO254 := n3_; have HO259 := n4_; have HO262 := n5_; have HO266 := n6_; have HO269 := n7_; have BK241 := n8_; have BK256 := n9_; have BK263 := n10_; have HB := n11_; clear n0_ n1_ n2_ n3_ n4_ n5_ n6_ n7_ n8_ n9_ n10_ n11_; (try clear hb); (try clear hb2); (try clear hk); (try clear hi); (try clear ho0); (try clear ho1)) | ((with_reducible refine gate_dst (N := 7) rfl ?_); refine box_event ?hg (N := 7) ?hd (cs := #[.slice none 0 0, .slice none 0 0]) (t := 26) ?hr ?_; (case hd => rfl); (case hg => rfl); (case hr => first | (go_simp; done) | (go_simp; rfl)); intro gb271 hg w34 hbox hb; have n0_ := Aside0.mk (Kd.R_below (by (with_reducible repeat (first | apply Kd.R_alloc | apply Kd.R_drewN | apply Kd.R_drew)); exact HO245.out) hb); have n1_ := Aside0.mk (Kd.R_below (by (with_reducible repeat (first | apply Kd.R_alloc | apply Kd.R_drewN | apply Kd.R_drew)); exact HO248.out) hb); have n2_ := Aside0.mk (Kd.R_below (by (with_reducible repeat (first | apply Kd.R_alloc | apply Kd.R_drewN | apply Kd.R_drew)); exact HO251.out) hb); have n3_ := Aside0.mk (Kd.R_below (by (with_reducible repeat (first | apply Kd.R_alloc | apply Kd.R_drewN | apply Kd.R_drew)); exact HO254.out) hb); have n4_ := Aside0.mk (Kd.R_below (by (with_reducible repeat (first | apply Kd.R_alloc | apply Kd.R_drewN | apply Kd.R_drew)); exact HO259.out) hb); have n5_ := Aside0.mk (Kd.R_below (by (with_reducible repeat (first | apply Kd.R_alloc | apply Kd.R_drewN | apply Kd.R_drew)); exact HO262.out) hb); have n6_ := Aside0.mk (Kd.R_below (by (with_reducible repeat (first | apply Kd.R_alloc | apply Kd.R_drewN | apply Kd.R_drew)); exact HO266.out) hb); have n7_ := Aside0.mk (Kd.R_below (by (with_reducible repeat (first | apply Kd.R_alloc | apply Kd.R_drewN | apply Kd.R_drew)); exact HO269.out) hb); have n8_ := Aside0.mk (blk_below (g := gb241) (o := .cells #[.slice A0_0 l0_0.length c0_0, .slice A0_1 l0_1.length c0_1] 24 (0, 0)) (by (with_reducible repeat (first | refine blk_drewN ?_ _ | refine blk_drew ?_ | refine blk_alloc ?_ _)); exact BK241.out) hb); have n9_ := Aside0.mk (blk_below (g := gb256) (o := .cells #[.slice Ao21 t249.length co21, .slice Ao24 t252.length co24] 26 (0, 0)) (by (with_reducible repeat (first | refine blk_drewN ?_ _ | refine blk_drew ?_ | refine blk_alloc ?_ _)); exact BK256.out) hb); have n10_ := Aside0.mk (blk_below (g := gb263) (o := .cells #[.slice Ao28 t257.length co28, .slice Ao32 t260.length co32] 26 (0, 0)) (by (with_reducible repeat (first | refine blk_drewN ?_ _ | refine blk_drew ?_ | refine blk_alloc ?_ _)); exact BK263.out) hb); have n11_ := Aside0.mk (below_step (by repeat (first | (with_reducible first | exact HB.out | apply below_alloc | apply pw_below_drewN | apply below_drew1 | refine below_set ?_ GE241.out | refine below_set ?_ GE256.out | refine below_set ?_ GE263.out) | exact HB.out)) hb); have n12_ := Aside0.mk (hbox); have n13_ := Aside0.mk ((by rw [hg]; exact (below_size (by repeat (first | (with_reducible first | exact HB.out | apply below_alloc | apply pw_below_drewN | apply below_drew1 | refine below_set ?_ GE241.out | refine below_set ?_ GE256.out | refine below_set ?_ GE263.out) | exact HB.out))) : w.heap.size ≤ gb271)); have n14_ := Aside0.mk ((by rw [hg]; exact (below_size (by repeat (first | (with_reducible first | exact HB.out | apply below_alloc | apply pw_below_drewN | apply below_drew1 | refine below_set ?_ GE241.out | refine below_set ?_ GE256.out | refine below_set ?_ GE263.out) | exact HB.out))) : w.heap.size ≤ gb271)); have n15_ := Aside0.mk ((by rw [hg]; exact Nat.ne_of_lt (blk_lt (g := gb241) (o := .cells #[.slice A0_0 l0_0.length c0_0, .slice A0_1 l0_1.length c0_1] 24 (0, 0)) (by (with_reducible repeat (first | refine blk_drewN ?_ _ | refine blk_drew ?_ | refine blk_alloc ?_ _)); exact BK241.out)) : gb241 ≠ gb271)); have n16_ := Aside0.mk ((by rw [hg]; exact Nat.ne_of_gt (blk_lt (g := gb241) (o := .cells #[.slice A0_0 l0_0.length c0_0, .slice A0_1 l0_1.length c0_1] 24 (0, 0)) (by (with_reducible repeat (first | refine blk_drewN ?_ _ | refine blk_drew ?_ | refine blk_alloc ?_ _)); exact BK241.out)) : gb271 ≠ gb241)); have n17_ := Aside0.mk ((by rw [hg]; exact Nat.ne_of_lt (blk_lt (g := gb256) (o := .cells #[.slice Ao21 t249.length co21, .slice Ao24 t252.length co24] 26 (0, 0)) (by (with_reducible repeat (first | refine blk_drewN ?_ _ | refine blk_drew ?_ | refine blk_alloc ?_ _)); exact BK256.out)) : gb256 ≠ gb271)); have n18_ := Aside0.mk ((by rw [hg]; exact Nat.ne_of_gt (blk_lt (g := gb256) (o := .cells #[.slice Ao21 t249.length co21, .slice Ao24 t252.length co24] 26 (0, 0)) (by (with_reducible repeat (first | refine blk_drewN ?_ _ | refine blk_drew ?_ | refine blk_alloc ?_ _)); exact BK256.out)) : gb271 ≠ gb256)); have n19_ := Aside0.mk ((by rw [hg]; exact Nat.ne_of_lt (blk_lt (g := gb263) (o := .cells #[.slice Ao28 t257.length co28, .slice Ao32 t260.length co32] 26 (0, 0)) (by (with_reducible repeat (first | refine blk_drewN ?_ _ | refine blk_drew ?_ | refine blk_alloc ?_ _)); exact BK263.out)) : gb263 ≠ gb271)); have n20_ := Aside0.mk ((by rw [hg]; exact Nat.ne_of_gt (blk_lt (g := gb263) (o := .cells #[.slice Ao28 t257.length co28, .slice Ao32 t260.length co32] 26 (0, 0)) (by (with_reducible repeat (first | refine blk_drewN ?_ _ | refine blk_drew ?_ | refine blk_alloc ?_ _)); exact BK263.out)) : gb271 ≠ gb263)); clear HO245; clear HO248; clear HO251; clear HO254; clear HO259; clear HO262; clear HO266; clear HO269; clear BK241; clear BK256; clear BK263; clear HB; have HO245 := n0_; have HO248 := n1_; have HO251 := n2_; have HO254 := n3_; have HO259 := n4_; have HO262 := n5_; have HO266 := n6_; have HO269 := n7_; have BK241 := n8_; have BK256 := n9_; have BK263 := n10_; have HB := n11_; have BK271 := n12_; have GW271 := n13_; have GE271 := n14_; have NB241_271 := n15_; have NB271_241 := n16_; have NB256_271 := n17_; have NB271_256 := n18_; have NB263_271 := n19_; have NB271_263 := n20_; clear n0_ n1_ n2_ n3_ n4_ n5_ n6_ n7_ n8_ n9_ n10_ n11_ n12_ n13_ n14_ n15_ n16_ n17_ n18_ n19_ n20_; clear hb hbox hg; obtain ⟨Ao35, co35, eo35⟩ := Kd.R_slice HO266.out; subst eo35; have hnb36 := NB271_241.out; have hnc36 := NB241_271.out; have hnb37 := NB271_256.out; have hnc37 := NB256_271.out; have hnb38 := NB271_263.out; have hnc38 := NB263_271.out; have hcz39_0 : w34.cell? ⟨gb271, 0, none⟩ = some (.slice none 0 0) := (blk_cell BK271.out 0).trans rfl; have hcz39_1 : w34.cell? ⟨gb271, 1, none⟩ = some (.slice none 0 0) := (blk_cell BK271.out 1).trans rfl; have hfz39_0 := blk_frozen BK271.out 0; have hfz39_1 := blk_frozen BK271.out 1; obtain ⟨Ao40, co40, eo40⟩ := Kd.R_slice HO269.out; subst eo40))
    (try simp only [Act.put, List.setIfInBounds_toArray, List.set_cons_zero, List.set_cons_succ])
    go_cut [40] (fun v40 wc => ∃ (kq : Nat) (x40_10 : Bool), v40 = .bool x40_10 ∧ Aside0 (laws_FnExactFlip.j0 kq t255 t270 x40_10 l0_0 l0_1 t249 t252 t257 t260 t264 t267 = some r) ∧ Aside0 (kq ≤ k) ∧ Aside0 (Kd.R (Kd.int .i64) 3 wc w.heap.size (fun k_ => some k_ ≠ ((.slice Ao24 t252.length co24) : Value).ownBlock ∧ some k_ ≠ ((.slice Ao28 t257.length co28) : Value).ownBlock ∧ some k_ ≠ ((.slice Ao32 t260.length co32) : Value).ownBlock ∧ some k_ ≠ ((.slice Ao35 t264.length co35) : Value).ownBlock ∧ some k_ ≠ ((.slice Ao40 t267.length co40) : Value).ownBlock) (.slice Ao21 t249.length co21) t249) ∧ Aside0 (Kd.R (Kd.int .i64) 3 wc w.heap.size (fun k_ => some k_ ≠ ((.slice Ao21 t249.length co21) : Value).ownBlock ∧ some k_ ≠ ((.slice Ao28 t257.length co28) : Value).ownBlock ∧ some k_ ≠ ((.slice Ao32 t260.length co32) : Value).ownBlock ∧ some k_ ≠ ((.slice Ao35 t264.length co35) : Value).ownBlock ∧ some k_ ≠ ((.slice Ao40 t267.length co40) : Value).ownBlock) (.slice Ao24 t252.length co24) t252) ∧ Aside0 (Kd.R (Kd.int .i64) 3 wc w.heap.size (fun k_ => some k_ ≠ ((.slice Ao21 t249.length co21) : Value).ownBlock ∧ some k_ ≠ ((.slice Ao24 t252.length co24) : Value).ownBlock ∧ some k_ ≠ ((.slice Ao32 t260.length co32) : Value).ownBlock ∧ some k_ ≠ ((.slice Ao35 t264.length co35) : Value).ownBlock ∧ some k_ ≠ ((.slice Ao40 t267.length co40) : Value).ownBlock) (.slice Ao28 t257.length co28) t257) ∧ Aside0 (Kd.R (Kd.int .i64) 3 wc w.heap.size (fun k_ => some k_ ≠ ((.slice Ao21 t249.length co21) : Value).ownBlock ∧ some k_ ≠ ((.slice Ao24 t252.length co24) : Value).ownBlock ∧ some k_ ≠ ((.slice Ao28 t257.length co28) : Value).ownBlock ∧ some k_ ≠ ((.slice Ao35 t264.length co35) : Value).ownBlock ∧ some k_ ≠ ((.slice Ao40 t267.length co40) : Value).ownBlock) (.slice Ao32 t260.length co32) t260) ∧ Aside0 (Kd.R (Kd.int .i64) 3 wc w.heap.size (fun k_ => some k_ ≠ ((.slice Ao21 t249.length co21) : Value).ownBlock ∧ some k_ ≠ ((.slice Ao24 t252.length co24) : Value).ownBlock ∧ some k_ ≠ ((.slice Ao28 t257.length co28) : Value).ownBlock ∧ some k_ ≠ ((.slice Ao32 t260.length co32) : Value).ownBlock ∧ some k_ ≠ ((.slice Ao40 t267.length co40) : Value).ownBlock) (.slice Ao35 t264.length co35) t264) ∧ Aside0 (Kd.R (Kd.int .i64) 3 wc w.heap.size (fun k_ => some k_ ≠ ((.slice Ao21 t249.length co21) : Value).ownBlock ∧ some k_ ≠ ((.slice Ao24 t252.length co24) : Value).ownBlock ∧ some k_ ≠ ((.slice Ao28 t257.length co28) : Value).ownBlock ∧ some k_ ≠ ((.slice Ao32 t260.length co32) : Value).ownBlock ∧ some k_ ≠ ((.slice Ao35 t264.length co35) : Value).ownBlock) (.slice Ao40 t267.length co40) t267) ∧ Aside0 (wc.heap[gb241]? = some (.cells #[(.slice A0_0 l0_0.length c0_0), (.slice A0_1 l0_1.length c0_1)] 24 (0, 0))) ∧ Aside0 (wc.heap[gb256]? = some (.cells #[(.slice Ao21 t249.length co21), (.slice Ao24 t252.length co24)] 26 (0, 0))) ∧ Aside0 (wc.heap[gb263]? = some (.cells #[(.slice Ao28 t257.length co28), (.slice Ao32 t260.length co32)] 26 (0, 0))) ∧ Aside0 (wc.heap[gb271]? = some (.cells #[(.slice Ao35 t264.length co35), (.slice Ao40 t267.length co40)] 26 (0, 0))) ∧ Aside0 (Below w.heap.size w wc))
    case first =>
      have H := HC11.out
      clear HC11
      replace H := Option.bind_eq_some_iff.mp H
      obtain ⟨t272, A410, H⟩ := H
      replace H : (if t272 = true then (laws_FnExactFlip.j0 k t255 t270 (t270 != t255) l0_0 l0_1 t249 t252 t257 t260 t264 t267) else (laws_FnExactFlip.j0 k t255 t270 true l0_0 l0_1 t249 t252 t257 t260 t264 t267)) = some r := H
      have A41 := Aside0.mk A410
      clear A410
      by_cases c42 : t272 = true
      · subst c42
        have H1 : (laws_FnExactFlip.j0 k t255 t270 (t270 != t255) l0_0 l0_1 t249 t252 t257 t260 t264 t267) = some r := by rw [if_pos rfl] at H; exact H
        clear H
        have H := H1
        clear H1
        have H' := Aside0.mk H
        clear H
        have hnb43 := NB271_241.out
        have hnc43 := NB241_271.out
        have hnb44 := NB271_256.out
        have hnc44 := NB256_271.out
        have hnb45 := NB271_263.out
        have hnc45 := NB263_271.out
        have hcz46_0 : w34.cell? ⟨gb271, 0, none⟩ = some (.slice none 0 0) := (blk_cell BK271.out 0).trans rfl
        have hcz46_1 : w34.cell? ⟨gb271, 1, none⟩ = some (.slice none 0 0) := (blk_cell BK271.out 1).trans rfl
        have hfz46_0 := blk_frozen BK271.out 0
        have hfz46_1 := blk_frozen BK271.out 1
        have hnb47 := NB256_241.out
        have hnc47 := NB241_256.out
        have hnb48 := NB256_263.out
        have hnc48 := NB263_256.out
        have hcz49_0 : w34.cell? ⟨gb256, 0, none⟩ = some (.slice Ao21 t249.length co21) := (blk_cell BK256.out 0).trans rfl
        have hcz49_1 : w34.cell? ⟨gb256, 1, none⟩ = some (.slice Ao24 t252.length co24) := (blk_cell BK256.out 1).trans rfl
        have hfz49_0 := blk_frozen BK256.out 0
        have hfz49_1 := blk_frozen BK256.out 1
        go_wp2_with (first | ((with_reducible refine gate_callee (f := 19) rfl ?_); refine goesL_ (some 34) rfl rfl Try.func19 (by kernel_rfl) rfl #[.agg #[.slice Ao35 t264.length co35, .slice Ao40 t267.length co40], .agg #[.slice Ao21 t249.length co21, .slice Ao24 t252.length co24]] rfl (by (try simp only [List.map_toArray, List.map_cons, List.map_nil]); first | done | rfl | (simp only [List.length_drop, List.length_take]; rfl)) ?_; (with_reducible refine (laws_eqArray.calls k _ _ t264 _ _ t267 _ _ t249 _ _ t252 true _ ?side1 ?side2 ?side3 ?side4 ?side5 ?side6 ?side7 ?side8 A41.out).mono ?_); (case side1 => refine (Kd.R_reads' (e := 3) (base := w.heap.size) (ok := fun k_ => ((((((some k_ ≠ (.slice Ao40 t267.length co40 : Value).ownBlock ∧ some k_ ≠ (.slice Ao17 t243.length co17 : Value).ownBlock) ∧ some k_ ≠ (.slice Ao18 t246.length co18 : Value).ownBlock) ∧ some k_ ≠ (.slice Ao21 t249.length co21 : Value).ownBlock) ∧ some k_ ≠ (.slice Ao24 t252.length co24 : Value).ownBlock) ∧ some k_ ≠ (.slice Ao28 t257.length co28 : Value).ownBlock) ∧ some k_ ≠ (.slice Ao32 t260.length co32 : Value).ownBlock)) (n := t264.length) (c := co35) ?_).2.2; exact (by (with_reducible repeat (first | apply Kd.R_alloc | apply Kd.R_drewN | apply Kd.R_drew)); exact (Kd.R_mono (Kd.R_far (p := ⟨gb271, 1, none⟩) (Kd.R_far (p := ⟨gb271, 0, none⟩) (Kd.R_types HO266.out BK271.out (by decide)) (fun _ hk => hk.2) (.slice Ao35 t264.length co35)) (fun _ hk => hk.2) (.slice Ao40 t267.length co40)) (fun _ h_ => h_.1)))); (case side2 => exact (Kd.R_reads' HO266.out).2.1); (case side3 => refine (Kd.R_reads' (e := 3) (base := w.heap.size) (ok := fun k_ => ((((((some k_ ≠ (.slice Ao35 t264.length co35 : Value).ownBlock ∧ some k_ ≠ (.slice Ao17 t243.length co17 : Value).ownBlock) ∧ some k_ ≠ (.slice Ao18 t246.length co18 : Value).ownBlock) ∧ some k_ ≠ (.slice Ao21 t249.length co21 : Value).ownBlock) ∧ some k_ ≠ (.slice Ao24 t252.length co24 : Value).ownBlock) ∧ some k_ ≠ (.slice Ao28 t257.length co28 : Value).ownBlock) ∧ some k_ ≠ (.slice Ao32 t260.length co32 : Value).ownBlock)) (n := t267.length) (c := co40) ?_).2.2; exact (by (with_reducible repeat (first | apply Kd.R_alloc | apply Kd.R_drewN | apply Kd.R_drew)); exact (Kd.R_mono (Kd.R_far (p := ⟨gb271, 1, none⟩) (Kd.R_far (p := ⟨gb271, 0, none⟩) (Kd.R_types HO269.out BK271.out (by decide)) (fun _ hk => hk.2) (.slice Ao35 t264.length co35)) (fun _ hk => hk.2) (.slice Ao40 t267.length co40)) (fun _ h_ => h_.1)))); (case side4 => exact (Kd.R_reads' HO269.out).2.1); (case side5 => refine (Kd.R_reads' (e := 3) (base := w.heap.size) (ok := fun k_ => ((((((some k_ ≠ (.slice Ao24 t252.length co24 : Value).ownBlock ∧ some k_ ≠ (.slice Ao17 t243.length co17 : Value).ownBlock) ∧ some k_ ≠ (.slice Ao18 t246.length co18 : Value).ownBlock) ∧ some k_ ≠ (.slice Ao28 t257.length co28 : Value).ownBlock) ∧ some k_ ≠ (.slice Ao32 t260.length co32 : Value).ownBlock) ∧ some k_ ≠ (.slice Ao35 t264.length co35 : Value).ownBlock) ∧ some k_ ≠ (.slice Ao40 t267.length co40 : Value).ownBlock)) (n := t249.length) (c := co21) ?_).2.2; exact (by (with_reducible repeat (first | apply Kd.R_alloc | apply Kd.R_drewN | apply Kd.R_drew)); exact (Kd.R_mono (Kd.R_far (p := ⟨gb271, 1, none⟩) (Kd.R_far (p := ⟨gb271, 0, none⟩) (Kd.R_types HO251.out BK271.out (by decide)) (fun _ hk => hk.2) (.slice Ao35 t264.length co35)) (fun _ hk => hk.2) (.slice Ao40 t267.length co40)) (fun _ h_ => h_.1)))); (case side6 => exact (Kd.R_reads' HO251.out).2.1); (case side7 => refine (Kd.R_reads' (e := 3) (base := w.heap.size) (ok := fun k_ => ((((((some k_ ≠ (.slice Ao21 t249.length co21 : Value).ownBlock ∧ some k_ ≠ (.slice Ao17 t243.length co17 : Value).ownBlock) ∧ some k_ ≠ (.slice Ao18 t246.length co18 : Value).ownBlock) ∧ some k_ ≠ (.slice Ao28 t257.length co28 : Value).ownBlock) ∧ some k_ ≠ (.slice Ao32 t260.length co32 : Value).ownBlock) ∧ some k_ ≠ (.slice Ao35 t264.length co35 : Value).ownBlock) ∧ some k_ ≠ (.slice Ao40 t267.length co40 : Value).ownBlock)) (n := t252.length) (c := co24) ?_).2.2; exact (by (with_reducible repeat (first | apply Kd.R_alloc | apply Kd.R_drewN | apply Kd.R_drew)); exact (Kd.R_mono (Kd.R_far (p := ⟨gb271, 1, none⟩) (Kd.R_far (p := ⟨gb271, 0, none⟩) (Kd.R_types HO254.out BK271.out (by decide)) (fun _ hk => hk.2) (.slice Ao35 t264.length co35)) (fun _ hk => hk.2) (.slice Ao40 t267.length co40)) (fun _ h_ => h_.1)))); (case side8 => exact (Kd.R_reads' HO254.out).2.1); rintro e w50 ⟨rfl, hb⟩; refine ⟨_, rfl, ?_⟩; have n0_ := Aside0.mk (Kd.R_below (by (with_reducible repeat (first | apply Kd.R_alloc | apply Kd.R_drewN | apply Kd.R_drew)); exact (Kd.R_mono (Kd.R_far (p := ⟨gb271, 1, none⟩) (Kd.R_far (p := ⟨gb271, 0, none⟩) (Kd.R_types HO245.out BK271.out (by decide)) (fun _ hk => hk.2) (.slice Ao35 t264.length co35)) (fun _ hk => hk.2) (.slice Ao40 t267.length co40)) (fun _ h_ => h_.1))) hb); have n1_ := Aside0.mk (Kd.R_below (by (with_reducible repeat (first | apply Kd.R_alloc | apply Kd.R_drewN | apply Kd.R_drew)); exact (Kd.R_mono (Kd.R_far (p := ⟨gb271, 1, none⟩) (Kd.R_far (p := ⟨gb271, 0, none⟩) (Kd.R_types HO248.out BK271.out (by decide)) (fun _ hk => hk.2) (.slice Ao35 t264.length co35)) (fun _ hk => hk.2) (.slice Ao40 t267.length co40)) (fun _ h_ => h_.1))) hb); have n2_ := Aside0.mk (Kd.R_below (by (with_reducible repeat (first | apply Kd.R_alloc | apply Kd.R_drewN | apply Kd.R_drew)); exact (Kd.R_mono (Kd.R_far (p := ⟨gb271, 1, none⟩) (Kd.R_far (p := ⟨gb271, 0, none⟩) (Kd.R_types HO251.out BK271.out (by decide)) (fun _ hk => hk.2) (.slice Ao35 t264.length co35)) (fun _ hk => hk.2) (.slice Ao40 t267.length co40)) (fun _ h_ => h_.1))) hb); have n3_ := Aside0.mk (Kd.R_below (by (with_reducible repeat (first | apply Kd.R_alloc | apply Kd.R_drewN | apply Kd.R_drew)); exact (Kd.R_mono (Kd.R_far (p := ⟨gb271, 1, none⟩) (Kd.R_far (p := ⟨gb271, 0, none⟩) (Kd.R_types HO254.out BK271.out (by decide)) (fun _ hk => hk.2) (.slice Ao35 t264.length co35)) (fun _ hk => hk.2) (.slice Ao40 t267.length co40)) (fun _ h_ => h_.1))) hb); have n4_ := Aside0.mk (Kd.R_below (by (with_reducible repeat (first | apply Kd.R_alloc | apply Kd.R_drewN | apply Kd.R_drew)); exact (Kd.R_mono (Kd.R_far (p := ⟨gb271, 1, none⟩) (Kd.R_far (p := ⟨gb271, 0, none⟩) (Kd.R_types HO259.out BK271.out (by decide)) (fun _ hk => hk.2) (.slice Ao35 t264.length co35)) (fun _ hk => hk.2) (.slice Ao40 t267.length co40)) (fun _ h_ => h_.1))) hb); have n5_ := Aside0.mk (Kd.R_below (by (with_reducible repeat (first | apply Kd.R_alloc | apply Kd.R_drewN | apply Kd.R_drew)); exact (Kd.R_mono (Kd.R_far (p := ⟨gb271, 1, none⟩) (Kd.R_far (p := ⟨gb271, 0, none⟩) (Kd.R_types HO262.out BK271.out (by decide)) (fun _ hk => hk.2) (.slice Ao35 t264.length co35)) (fun _ hk => hk.2) (.slice Ao40 t267.length co40)) (fun _ h_ => h_.1))) hb); have n6_ := Aside0.mk (Kd.R_below (by (with_reducible repeat (first | apply Kd.R_alloc | apply Kd.R_drewN | apply Kd.R_drew)); exact (Kd.R_mono (Kd.R_far (p := ⟨gb271, 1, none⟩) (Kd.R_far (p := ⟨gb271, 0, none⟩) (Kd.R_types HO266.out BK271.out (by decide)) (fun _ hk => hk.2) (.slice Ao35 t264.length co35)) (fun _ hk => hk.2) (.slice Ao40 t267.length co40)) (fun _ h_ => h_.1))) hb); have n7_ := Aside0.mk (Kd.R_below (by (with_reducible repeat (first | apply Kd.R_alloc | apply Kd.R_drewN | apply Kd.R_drew)); exact (Kd.R_mono (Kd.R_far (p := ⟨gb271, 1, none⟩) (Kd.R_far (p := ⟨gb271, 0, none⟩) (Kd.R_types HO269.out BK271.out (by decide)) (fun _ hk => hk.2) (.slice Ao35 t264.length co35)) (fun _ hk => hk.2) (.slice Ao40 t267.length co40)) (fun _ h_ => h_.1))) hb); have n8_ := Aside0.mk (blk_below (g := gb241) (o := .cells #[.slice A0_0 l0_0.length c0_0, .slice A0_1 l0_1.length c0_1] 24 (0, 0)) (by (with_reducible repeat (first | refine blk_drewN ?_ _ | refine blk_drew ?_ | refine blk_alloc ?_ _)); refine blk_far ?_ NB241_271.out _; (with_reducible repeat (first | refine blk_drewN ?_ _ | refine blk_drew ?_ | refine blk_alloc ?_ _)); refine blk_far ?_ NB241_271.out _; (with_reducible repeat (first | refine blk_drewN ?_ _ | refine blk_drew ?_ | refine blk_alloc ?_ _)); exact BK241.out) hb); have n9_ := Aside0.mk (blk_below (g := gb256) (o := .cells #[.slice Ao21 t249.length co21, .slice Ao24 t252.length co24] 26 (0, 0)) (by (with_reducible repeat (first | refine blk_drewN ?_ _ | refine blk_drew ?_ | refine blk_alloc ?_ _)); refine blk_far ?_ NB256_271.out _; (with_reducible repeat (first | refine blk_drewN ?_ _ | refine blk_drew ?_ | refine blk_alloc ?_ _)); refine blk_far ?_ NB256_271.out _; (with_reducible repeat (first | refine blk_drewN ?_ _ | refine blk_drew ?_ | refine blk_alloc ?_ _)); exact BK256.out) hb); have n10_ := Aside0.mk (blk_below (g := gb263) (o := .cells #[.slice Ao28 t257.length co28, .slice Ao32 t260.length co32] 26 (0, 0)) (by (with_reducible repeat (first | refine blk_drewN ?_ _ | refine blk_drew ?_ | refine blk_alloc ?_ _)); refine blk_far ?_ NB263_271.out _; (with_reducible repeat (first | refine blk_drewN ?_ _ | refine blk_drew ?_ | refine blk_alloc ?_ _)); refine blk_far ?_ NB263_271.out _; (with_reducible repeat (first | refine blk_drewN ?_ _ | refine blk_drew ?_ | refine blk_alloc ?_ _)); exact BK263.out) hb); have n11_ := Aside0.mk (blk_below (g := gb271) (o := .cells #[.slice Ao35 t264.length co35, .slice Ao40 t267.length co40] 26 (0, 0)) (by (with_reducible repeat (first | refine blk_drewN ?_ _ | refine blk_drew ?_ | refine blk_alloc ?_ _)); refine blk_put (cs := #[.slice Ao35 t264.length co35, .slice none 0 0]) ?_ 1 _ rfl; (with_reducible repeat (first | refine blk_drewN ?_ _ | refine blk_drew ?_ | refine blk_alloc ?_ _)); refine blk_put (cs := #[.slice none 0 0, .slice none 0 0]) ?_ 0 _ rfl; (with_reducible repeat (first | refine blk_drewN ?_ _ | refine blk_drew ?_ | refine blk_alloc ?_ _)); exact BK271.out) hb); have n12_ := Aside0.mk (below_step (by repeat (first | (with_reducible first | exact HB.out | apply below_alloc | apply pw_below_drewN | apply below_drew1 | refine below_set ?_ GE241.out | refine below_set ?_ GE256.out | refine below_set ?_ GE263.out | refine below_set ?_ GE271.out) | exact HB.out)) hb); clear HO245; clear HO248; clear HO251; clear HO254; clear HO259; clear HO262; clear HO266; clear HO269; clear BK241; clear BK256; clear BK263; clear BK271; clear HB; have HO245 := n0_; have HO248 := n1_; have HO251 := n2_; have HO254 := n3_; have HO259 := n4_; have HO262 := n5_; have HO266 := n6_; have HO269 := n7_; have BK241 := n8_; have BK256 := n9_; have BK263 := n10_; have BK271 := n11_; have HB := n12_; clear n0_ n1_ n2_ n3_ n4_ n5_ n6_ n7_ n8_ n9_ n10_ n11_ n12_; (try clear hb); (try clear hb2); (try clear hk); (try clear hi)))
        go_meet
        case rel => exact ⟨_, ((t270 != t255)), (by first | rfl | (simp; done) | (simp [*]; done)), H', ⟨by first | omega | exact Nat.le_refl _⟩, ⟨by (with_reducible repeat (first | apply Kd.R_alloc | apply Kd.R_drewN | apply Kd.R_drew)); exact Kd.R_mono HO251.out (fun _ hk => ⟨hk.1.1.1.1.1.1, ⟨hk.1.1.1.2, ⟨hk.1.1.2, ⟨hk.1.2, hk.2⟩⟩⟩⟩)⟩, ⟨by (with_reducible repeat (first | apply Kd.R_alloc | apply Kd.R_drewN | apply Kd.R_drew)); exact Kd.R_mono HO254.out (fun _ hk => ⟨hk.1.1.1.1.1.1, ⟨hk.1.1.1.2, ⟨hk.1.1.2, ⟨hk.1.2, hk.2⟩⟩⟩⟩)⟩, ⟨by (with_reducible repeat (first | apply Kd.R_alloc | apply Kd.R_drewN | apply Kd.R_drew)); exact Kd.R_mono HO259.out (fun _ hk => ⟨hk.1.1.1.2, ⟨hk.1.1.2, ⟨hk.1.1.1.1.1.1, ⟨hk.1.2, hk.2⟩⟩⟩⟩)⟩, ⟨by (with_reducible repeat (first | apply Kd.R_alloc | apply Kd.R_drewN | apply Kd.R_drew)); exact Kd.R_mono HO262.out (fun _ hk => ⟨hk.1.1.1.2, ⟨hk.1.1.2, ⟨hk.1.1.1.1.1.1, ⟨hk.1.2, hk.2⟩⟩⟩⟩)⟩, ⟨by (with_reducible repeat (first | apply Kd.R_alloc | apply Kd.R_drewN | apply Kd.R_drew)); exact Kd.R_mono HO266.out (fun _ hk => ⟨hk.1.1.1.2, ⟨hk.1.1.2, ⟨hk.1.2, ⟨hk.2, hk.1.1.1.1.1.1⟩⟩⟩⟩)⟩, ⟨by (with_reducible repeat (first | apply Kd.R_alloc | apply Kd.R_drewN | apply Kd.R_drew)); exact Kd.R_mono HO269.out (fun _ hk => ⟨hk.1.1.1.2, ⟨hk.1.1.2, ⟨hk.1.2, ⟨hk.2, hk.1.1.1.1.1.1⟩⟩⟩⟩)⟩, ⟨by (with_reducible repeat (first | refine blk_drewN ?_ _ | refine blk_drew ?_ | refine blk_alloc ?_ _)); exact BK241.out⟩, ⟨by (with_reducible repeat (first | refine blk_drewN ?_ _ | refine blk_drew ?_ | refine blk_alloc ?_ _)); exact BK256.out⟩, ⟨by (with_reducible repeat (first | refine blk_drewN ?_ _ | refine blk_drew ?_ | refine blk_alloc ?_ _)); exact BK263.out⟩, ⟨by (with_reducible repeat (first | refine blk_drewN ?_ _ | refine blk_drew ?_ | refine blk_alloc ?_ _)); exact BK271.out⟩, ⟨by repeat (first | (with_reducible first | exact HB.out | apply below_alloc | apply pw_below_drewN | apply below_drew1 | refine below_set ?_ GE241.out | refine below_set ?_ GE256.out | refine below_set ?_ GE263.out | refine below_set ?_ GE271.out) | exact HB.out)⟩⟩
      · replace c42 := Bool.eq_false_iff.mpr c42
        subst c42
        have H1 : (laws_FnExactFlip.j0 k t255 t270 true l0_0 l0_1 t249 t252 t257 t260 t264 t267) = some r := by rw [if_neg (show ¬ (false = true) by decide)] at H; exact H
        clear H
        have H := H1
        clear H1
        have hz_ : ∀ kz, laws_FnExactFlip.j0 kz t255 t270 true l0_0 l0_1 t249 t252 t257 t260 t264 t267 = some r → r = false := by intro kz hz; cases kz with | zero => exact absurd hz (by simp [laws_FnExactFlip.j0]) | succ kz => simp only [laws_FnExactFlip.j0] at hz; first | (rw [if_pos rfl] at hz; exact (Option.some.inj hz).symm) | (simp at hz; exact hz.symm) | (simp at hz; exact hz)
        exact absurd (HT.out.symm.trans (hz_ _ H)) (by decide)
    case rest =>
      clear HC11
      try clear c1
      try clear c2
      try clear p2
      try clear c3
      try clear c3b0
      try clear c4
      try clear c8
      try clear c15
      try clear c17
      try clear c19
      try clear c22
      try clear c29
      try clear c30
      try clear c36
      try clear c37
      try clear c38
      try clear c41
      try clear c42
      try clear c43
      try clear c44
      try clear c45
      try clear c47
      try clear c48
      try clear hcz13_0
      try clear hcz13_1
      try clear hcz15_0
      try clear hcz15_1
      try clear hcz23_0
      try clear hcz23_1
      try clear hcz25_0
      try clear hcz25_1
      try clear hcz31_0
      try clear hcz31_1
      try clear hcz39_0
      try clear hcz39_1
      try clear hcz46_0
      try clear hcz46_1
      try clear hcz49_0
      try clear hcz49_1
      try clear hcz5_0
      try clear hcz5_1
      try clear hfz13_0
      try clear hfz13_1
      try clear hfz15_0
      try clear hfz15_1
      try clear hfz23_0
      try clear hfz23_1
      try clear hfz25_0
      try clear hfz25_1
      try clear hfz31_0
      try clear hfz31_1
      try clear hfz39_0
      try clear hfz39_1
      try clear hfz46_0
      try clear hfz46_1
      try clear hfz49_0
      try clear hfz49_1
      try clear hfz5_0
      try clear hfz5_1
      obtain ⟨kq, x40_10, rfl, HA, HJ10, HO_257000, HO_257001, HO_264000, HO_264001, HO_272000, HO_272001, BK241, BK256, BK263, BK271, HB⟩ := hcut
      cases kq with
      | zero => exact absurd HA.out (by simp [laws_FnExactFlip.j0])
      | succ kj10 =>
        have H := HA.out
        clear HA
        simp only [laws_FnExactFlip.j0] at H
        by_cases c51 : x40_10 = true
        · subst c51
          have H1 : (some false) = some r := by rw [if_pos rfl] at H; exact H
          clear H
          have H := H1
          clear H1
          obtain rfl := Option.some.inj H
          exact absurd HT.out (by decide)
        · replace c51 := Bool.eq_false_iff.mpr c51
          subst c51
          have H1 : ((laws_toArray.f kj10 l0_0 l0_1).bind fun bt273 => ((laws_eqArray.f kj10 t257 t260 bt273.1 bt273.2).bind fun t279 => (if t279 = true then ((laws_markArray.f kj10 t257 t260 1).bind fun bt280 => (if bt280.1 < 0 then (laws_FnExactFlip.j1 kj10 t255 true l0_0 l0_1 t249 t252 t264 t267) else ((laws_eqArray.f kj10 t264 t267 t249 t252).bind fun t283 => (if t283 = true then (laws_FnExactFlip.j1 kj10 t255 (t270 != t255) l0_0 l0_1 t249 t252 t264 t267) else (laws_FnExactFlip.j1 kj10 t255 true l0_0 l0_1 t249 t252 t264 t267))))) else (some false)))) = some r := by rw [if_neg (show ¬ (false = true) by decide)] at H; exact H
          clear H
          have H := H1
          clear H1
          replace H := Option.bind_eq_some_iff.mp H
          obtain ⟨⟨t273, t276⟩, A520, H⟩ := H
          replace H : ((laws_eqArray.f kj10 t257 t260 t273 t276).bind fun t279 => (if t279 = true then ((laws_markArray.f kj10 t257 t260 1).bind fun bt280 => (if bt280.1 < 0 then (laws_FnExactFlip.j1 kj10 t255 true l0_0 l0_1 t249 t252 t264 t267) else ((laws_eqArray.f kj10 t264 t267 t249 t252).bind fun t283 => (if t283 = true then (laws_FnExactFlip.j1 kj10 t255 (t270 != t255) l0_0 l0_1 t249 t252 t264 t267) else (laws_FnExactFlip.j1 kj10 t255 true l0_0 l0_1 t249 t252 t264 t267))))) else (some false))) = some r := H
          have A52 := Aside0.mk A520
          clear A520
          replace H := Option.bind_eq_some_iff.mp H
          obtain ⟨t279, A530, H⟩ := H
          replace H : (if t279 = true then ((laws_markArray.f kj10 t257 t260 1).bind fun bt280 => (if bt280.1 < 0 then (laws_FnExactFlip.j1 kj10 t255 true l0_0 l0_1 t249 t252 t264 t267) else ((laws_eqArray.f kj10 t264 t267 t249 t252).bind fun t283 => (if t283 = true then (laws_FnExactFlip.j1 kj10 t255 (t270 != t255) l0_0 l0_1 t249 t252 t264 t267) else (laws_FnExactFlip.j1 kj10 t255 true l0_0 l0_1 t249 t252 t264 t267))))) else (some false)) = some r := H
          have A53 := Aside0.mk A530
          clear A530
          by_cases c54 : t279 = true
          · subst c54
            have H1 : ((laws_markArray.f kj10 t257 t260 1).bind fun bt280 => (if bt280.1 < 0 then (laws_FnExactFlip.j1 kj10 t255 true l0_0 l0_1 t249 t252 t264 t267) else ((laws_eqArray.f kj10 t264 t267 t249 t252).bind fun t283 => (if t283 = true then (laws_FnExactFlip.j1 kj10 t255 (t270 != t255) l0_0 l0_1 t249 t252 t264 t267) else (laws_FnExactFlip.j1 kj10 t255 true l0_0 l0_1 t249 t252 t264 t267))))) = some r := by rw [if_pos rfl] at H; exact H
            clear H
            have H := H1
            clear H1
            replace H := Option.bind_eq_some_iff.mp H
            obtain ⟨⟨t280, t281, t282⟩, A550, H⟩ := H
            replace H : (if t280 < 0 then (laws_FnExactFlip.j1 kj10 t255 true l0_0 l0_1 t249 t252 t264 t267) else ((laws_eqArray.f kj10 t264 t267 t249 t252).bind fun t283 => (if t283 = true then (laws_FnExactFlip.j1 kj10 t255 (t270 != t255) l0_0 l0_1 t249 t252 t264 t267) else (laws_FnExactFlip.j1 kj10 t255 true l0_0 l0_1 t249 t252 t264 t267)))) = some r := H
            have A55 := Aside0.mk A550
            clear A550
            have HC56 := Aside0.mk H
            clear H
            try go_wp2
            have n0_ := Aside0.mk (Kd.R_drew HO_257000.out)
            have n1_ := Aside0.mk (Kd.R_drew HO_257001.out)
            have n2_ := Aside0.mk (Kd.R_drew HO_264000.out)
            have n3_ := Aside0.mk (Kd.R_drew HO_264001.out)
            have n4_ := Aside0.mk (Kd.R_drew HO_272000.out)
            have n5_ := Aside0.mk (Kd.R_drew HO_272001.out)
            have n6_ := Aside0.mk (blk_drew BK241.out)
            have n7_ := Aside0.mk (blk_drew BK256.out)
            have n8_ := Aside0.mk (blk_drew BK263.out)
            have n9_ := Aside0.mk (blk_drew BK271.out)
            have n10_ := Aside0.mk (below_drew1 HB.out)
            clear HO_257000
            clear HO_257001
            clear HO_264000
            clear HO_264001
            clear HO_272000
            clear HO_272001
            clear BK241
            clear BK256
            clear BK263
            clear BK271
            clear HB
            have HO_257000 := n0_
            have HO_257001 := n1_
            have HO_264000 := n2_
            have HO_264001 := n3_
            have HO_272000 := n4_
            have HO_272001 := n5_
            have BK241 := n6_
            have BK256 := n7_
            have BK263 := n8_
            have BK271 := n9_
            have HB := n10_
            clear n0_ n1_ n2_ n3_ n4_ n5_ n6_ n7_ n8_ n9_ n10_
            refine start_ (n := 5) (S := fun w' => w'.cell? ⟨gb263, 0, none⟩ = some (.slice Ao28 t257.length co28) ∧ w'.cell? ⟨gb263, 1, none⟩ = some (.slice Ao32 t260.length co32) ∧ w'.cell? ⟨gb241, 0, none⟩ = some (.slice A0_0 l0_0.length c0_0) ∧ w'.cell? ⟨gb241, 1, none⟩ = some (.slice A0_1 l0_1.length c0_1)) (ds := []) #[false, false, false, false, false] (by kernel_rfl) rfl rfl ⟨(blk_cell BK263.out 0).trans rfl, (blk_cell BK263.out 1).trans rfl, (blk_cell BK241.out 0).trans rfl, (blk_cell BK241.out 1).trans rfl⟩ (fun hHeld => ?_)
            generalize wc.drew = w57 at HO_257000 HO_257001 HO_264000 HO_264001 HO_272000 HO_272001 BK241 BK256 BK263 BK271 HB hHeld ⊢
            refine take_ (i := 0) (N := some 41) (v := ?_) (a' := ?_) #[true, false, false, false, false] rfl rfl (by kernel_rfl) (fun _ _ _ h => h) (Or.inl ⟨by rfl, ?_⟩) hHeld ?_ ?_
            rotate_left
            · rintro w' ⟨s0, s1, s2, s3⟩
              go_simp
              with_reducible rfl
            rotate_left
            · simp only [Act.put, List.setIfInBounds_toArray, List.set_cons_zero, List.set_cons_succ, i64_w, i32_w]
              rfl
            refine take_ (i := 1) (N := some 42) (v := ?_) (a' := ?_) #[true, true, false, false, false] rfl rfl (by kernel_rfl) (fun _ _ _ h => h) (Or.inl ⟨by rfl, ?_⟩) hHeld ?_ ?_
            rotate_left
            · rintro w' ⟨s0, s1, s2, s3⟩
              go_simp
              with_reducible rfl
            rotate_left
            · simp only [Act.put, List.setIfInBounds_toArray, List.set_cons_zero, List.set_cons_succ, i64_w, i32_w]
              rfl
            refine one_ (i := 2) (N := some 43) #[true, true, true, false, false] rfl rfl (by kernel_rfl) (by decide) (fun K hK => ?_)
            refine goes_ Try.func17 (by kernel_rfl) rfl #[.agg #[.slice A0_0 l0_0.length c0_0, .slice A0_1 l0_1.length c0_1]] (by rfl) rfl rfl (by (try simp only [List.map_toArray, List.map_cons, List.map_nil]); first | done | rfl | (simp only [List.length_drop, List.length_take]; rfl)) ?_
            with_reducible refine (laws_toArray.calls kj10 _ _ l0_0 _ _ l0_1 t273 t276 _ ?side1 ?side2 ?side3 ?side4 A52.out).mono ?_
            (case side1 => repeat (first | exact (Kd.C_below HR0_0.out HB.out) | (with_reducible refine Kd.C_alloc ?_ _) | (with_reducible refine Kd.C_drewN ?_ _) | (with_reducible refine Kd.C_drew ?_)))
            (case side2 => exact HC0_0.out)
            (case side3 => repeat (first | exact (Kd.C_below HR0_1.out HB.out) | (with_reducible refine Kd.C_alloc ?_ _) | (with_reducible refine Kd.C_drewN ?_ _) | (with_reducible refine Kd.C_drew ?_)))
            (case side4 => exact HC0_1.out)
            rintro e w58 ⟨v274, v277, rfl, ho0, ho1, hb⟩
            refine ⟨_, rfl, ?_⟩
            have n0_ := Aside0.mk (Kd.R_mono (Kd.R_told (Kd.R_told (Kd.R_old (by (with_reducible repeat (first | apply Kd.R_alloc | apply Kd.R_drewN | apply Kd.R_drew)); exact HO_257000.out) hb) (Kd.R_base ho0)) (Kd.R_base ho1)) (fun _ h_ => h_.1))
            have n1_ := Aside0.mk (Kd.R_mono (Kd.R_told (Kd.R_told (Kd.R_old (by (with_reducible repeat (first | apply Kd.R_alloc | apply Kd.R_drewN | apply Kd.R_drew)); exact HO_257001.out) hb) (Kd.R_base ho0)) (Kd.R_base ho1)) (fun _ h_ => h_.1))
            have n2_ := Aside0.mk (Kd.R_mono (Kd.R_told (Kd.R_told (Kd.R_old (by (with_reducible repeat (first | apply Kd.R_alloc | apply Kd.R_drewN | apply Kd.R_drew)); exact HO_264000.out) hb) (Kd.R_base ho0)) (Kd.R_base ho1)) (fun _ h_ => h_.1))
            have n3_ := Aside0.mk (Kd.R_mono (Kd.R_told (Kd.R_told (Kd.R_old (by (with_reducible repeat (first | apply Kd.R_alloc | apply Kd.R_drewN | apply Kd.R_drew)); exact HO_264001.out) hb) (Kd.R_base ho0)) (Kd.R_base ho1)) (fun _ h_ => h_.1))
            have n4_ := Aside0.mk (Kd.R_mono (Kd.R_told (Kd.R_told (Kd.R_old (by (with_reducible repeat (first | apply Kd.R_alloc | apply Kd.R_drewN | apply Kd.R_drew)); exact HO_272000.out) hb) (Kd.R_base ho0)) (Kd.R_base ho1)) (fun _ h_ => h_.1))
            have n5_ := Aside0.mk (Kd.R_mono (Kd.R_told (Kd.R_told (Kd.R_old (by (with_reducible repeat (first | apply Kd.R_alloc | apply Kd.R_drewN | apply Kd.R_drew)); exact HO_272001.out) hb) (Kd.R_base ho0)) (Kd.R_base ho1)) (fun _ h_ => h_.1))
            have n6_ := Aside0.mk (Kd.R_lower (Kd.R_new' (Kd.R_new' (Kd.R_new' (Kd.R_new' (Kd.R_new' (Kd.R_new' ho0 (Kd.R_lt (by (with_reducible repeat (first | apply Kd.R_alloc | apply Kd.R_drewN | apply Kd.R_drew)); exact HO_257000.out))) (Kd.R_lt (by (with_reducible repeat (first | apply Kd.R_alloc | apply Kd.R_drewN | apply Kd.R_drew)); exact HO_257001.out))) (Kd.R_lt (by (with_reducible repeat (first | apply Kd.R_alloc | apply Kd.R_drewN | apply Kd.R_drew)); exact HO_264000.out))) (Kd.R_lt (by (with_reducible repeat (first | apply Kd.R_alloc | apply Kd.R_drewN | apply Kd.R_drew)); exact HO_264001.out))) (Kd.R_lt (by (with_reducible repeat (first | apply Kd.R_alloc | apply Kd.R_drewN | apply Kd.R_drew)); exact HO_272000.out))) (Kd.R_lt (by (with_reducible repeat (first | apply Kd.R_alloc | apply Kd.R_drewN | apply Kd.R_drew)); exact HO_272001.out))) (below_size (by repeat (first | (with_reducible first | exact HB.out | apply below_alloc | apply pw_below_drewN | apply below_drew1 | refine below_set ?_ GE241.out | refine below_set ?_ GE256.out | refine below_set ?_ GE263.out | refine below_set ?_ GE271.out) | exact HB.out))))
            have n7_ := Aside0.mk (Kd.R_lower (Kd.R_new' (Kd.R_new' (Kd.R_new' (Kd.R_new' (Kd.R_new' (Kd.R_new' ho1 (Kd.R_lt (by (with_reducible repeat (first | apply Kd.R_alloc | apply Kd.R_drewN | apply Kd.R_drew)); exact HO_257000.out))) (Kd.R_lt (by (with_reducible repeat (first | apply Kd.R_alloc | apply Kd.R_drewN | apply Kd.R_drew)); exact HO_257001.out))) (Kd.R_lt (by (with_reducible repeat (first | apply Kd.R_alloc | apply Kd.R_drewN | apply Kd.R_drew)); exact HO_264000.out))) (Kd.R_lt (by (with_reducible repeat (first | apply Kd.R_alloc | apply Kd.R_drewN | apply Kd.R_drew)); exact HO_264001.out))) (Kd.R_lt (by (with_reducible repeat (first | apply Kd.R_alloc | apply Kd.R_drewN | apply Kd.R_drew)); exact HO_272000.out))) (Kd.R_lt (by (with_reducible repeat (first | apply Kd.R_alloc | apply Kd.R_drewN | apply Kd.R_drew)); exact HO_272001.out))) (below_size (by repeat (first | (with_reducible first | exact HB.out | apply below_alloc | apply pw_below_drewN | apply below_drew1 | refine below_set ?_ GE241.out | refine below_set ?_ GE256.out | refine below_set ?_ GE263.out | refine below_set ?_ GE271.out) | exact HB.out))))
            have n8_ := Aside0.mk (blk_below (g := gb241) (o := .cells #[.slice A0_0 l0_0.length c0_0, .slice A0_1 l0_1.length c0_1] 24 (0, 0)) (by (with_reducible repeat (first | refine blk_drewN ?_ _ | refine blk_drew ?_ | refine blk_alloc ?_ _)); exact BK241.out) hb)
            have n9_ := Aside0.mk (blk_below (g := gb256) (o := .cells #[.slice Ao21 t249.length co21, .slice Ao24 t252.length co24] 26 (0, 0)) (by (with_reducible repeat (first | refine blk_drewN ?_ _ | refine blk_drew ?_ | refine blk_alloc ?_ _)); exact BK256.out) hb)
            have n10_ := Aside0.mk (blk_below (g := gb263) (o := .cells #[.slice Ao28 t257.length co28, .slice Ao32 t260.length co32] 26 (0, 0)) (by (with_reducible repeat (first | refine blk_drewN ?_ _ | refine blk_drew ?_ | refine blk_alloc ?_ _)); exact BK263.out) hb)
            have n11_ := Aside0.mk (blk_below (g := gb271) (o := .cells #[.slice Ao35 t264.length co35, .slice Ao40 t267.length co40] 26 (0, 0)) (by (with_reducible repeat (first | refine blk_drewN ?_ _ | refine blk_drew ?_ | refine blk_alloc ?_ _)); exact BK271.out) hb)
            have n12_ := Aside0.mk (below_step (by repeat (first | (with_reducible first | exact HB.out | apply below_alloc | apply pw_below_drewN | apply below_drew1 | refine below_set ?_ GE241.out | refine below_set ?_ GE256.out | refine below_set ?_ GE263.out | refine below_set ?_ GE271.out) | exact HB.out)) hb)
            clear HO_257000
            clear HO_257001
            clear HO_264000
            clear HO_264001
            clear HO_272000
            clear HO_272001
            clear BK241
            clear BK256
            clear BK263
            clear BK271
            clear HB
            have HO_257000 := n0_
            have HO_257001 := n1_
            have HO_264000 := n2_
            have HO_264001 := n3_
            have HO_272000 := n4_
            have HO_272001 := n5_
            have HO275 := n6_
            have HO278 := n7_
            have BK241 := n8_
            have BK256 := n9_
            have BK263 := n10_
            have BK271 := n11_
            have HB := n12_
            clear n0_ n1_ n2_ n3_ n4_ n5_ n6_ n7_ n8_ n9_ n10_ n11_ n12_
            (try clear hb)
            (try clear hb2)
            (try clear hk)
            (try clear hi)
            (try clear ho0)
            (try clear ho1)
            obtain ⟨Ao59, co59, eo59⟩ := Kd.R_slice HO275.out
            (first | subst eo59 | (injection eo59 with f1_ f2_ f3_; have f4_ := f1_.symm; have f5_ := f3_.symm; clear f1_ f2_ f3_; subst f4_; subst f5_))
            obtain ⟨Ao60, co60, eo60⟩ := Kd.R_slice HO278.out
            (first | subst eo60 | (injection eo60 with f1_ f2_ f3_; have f4_ := f1_.symm; have f5_ := f3_.symm; clear f1_ f2_ f3_; subst f4_; subst f5_))
            refine hK.out _ _ ⟨(blk_cell BK263.out 0).trans rfl, (blk_cell BK263.out 1).trans rfl, (blk_cell BK241.out 0).trans rfl, (blk_cell BK241.out 1).trans rfl⟩ (fun hHeld => ?_)
            clear hK K
            refine norm_ (a' := ?_) ?_ ?_
            rotate_left
            · show Act.put _ (some 43) _ = _
              simp only [Act.put, List.setIfInBounds_toArray, List.set_cons_zero, List.set_cons_succ, i64_w, i32_w]
              rfl
            refine one_ (i := 3) (N := some 44) #[true, true, true, true, false] rfl rfl (by kernel_rfl) (by decide) (fun K hK => ?_)
            refine goes_ Try.func19 (by kernel_rfl) rfl #[.agg #[.slice Ao28 t257.length co28, .slice Ao32 t260.length co32], .agg #[.slice Ao59 t273.length co59, .slice Ao60 t276.length co60]] (by rfl) rfl rfl (by (try simp only [List.map_toArray, List.map_cons, List.map_nil]); first | done | rfl | (simp only [List.length_drop, List.length_take]; rfl)) ?_
            with_reducible refine (laws_eqArray.calls kj10 _ _ t257 _ _ t260 _ _ t273 _ _ t276 true _ ?side1 ?side2 ?side3 ?side4 ?side5 ?side6 ?side7 ?side8 A53.out).mono ?_
            (case side1 => repeat (first | exact (Kd.R_reads' HO_264000.out).2.2 | (with_reducible refine Kd.C_alloc ?_ _) | (with_reducible refine Kd.C_drewN ?_ _) | (with_reducible refine Kd.C_drew ?_)))
            (case side2 => exact (Kd.R_reads' HO_264000.out).2.1)
            (case side3 => repeat (first | exact (Kd.R_reads' HO_264001.out).2.2 | (with_reducible refine Kd.C_alloc ?_ _) | (with_reducible refine Kd.C_drewN ?_ _) | (with_reducible refine Kd.C_drew ?_)))
            (case side4 => exact (Kd.R_reads' HO_264001.out).2.1)
            (case side5 => repeat (first | exact (Kd.R_reads' HO275.out).2.2 | (with_reducible refine Kd.C_alloc ?_ _) | (with_reducible refine Kd.C_drewN ?_ _) | (with_reducible refine Kd.C_drew ?_)))
            (case side6 => exact (Kd.R_reads' HO275.out).2.1)
            (case side7 => repeat (first | exact (Kd.R_reads' HO278.out).2.2 | (with_reducible refine Kd.C_alloc ?_ _) | (with_reducible refine Kd.C_drewN ?_ _) | (with_reducible refine Kd.C_drew ?_)))
            (case side8 => exact (Kd.R_reads' HO278.out).2.1)
            rintro e w61 ⟨rfl, hb⟩
            refine ⟨_, rfl, ?_⟩
            have n0_ := Aside0.mk (Kd.R_below (by (with_reducible repeat (first | apply Kd.R_alloc | apply Kd.R_drewN | apply Kd.R_drew)); exact HO_257000.out) hb)
            have n1_ := Aside0.mk (Kd.R_below (by (with_reducible repeat (first | apply Kd.R_alloc | apply Kd.R_drewN | apply Kd.R_drew)); exact HO_257001.out) hb)
            have n2_ := Aside0.mk (Kd.R_below (by (with_reducible repeat (first | apply Kd.R_alloc | apply Kd.R_drewN | apply Kd.R_drew)); exact HO_264000.out) hb)
            have n3_ := Aside0.mk (Kd.R_below (by (with_reducible repeat (first | apply Kd.R_alloc | apply Kd.R_drewN | apply Kd.R_drew)); exact HO_264001.out) hb)
            have n4_ := Aside0.mk (Kd.R_below (by (with_reducible repeat (first | apply Kd.R_alloc | apply Kd.R_drewN | apply Kd.R_drew)); exact HO_272000.out) hb)
            have n5_ := Aside0.mk (Kd.R_below (by (with_reducible repeat (first | apply Kd.R_alloc | apply Kd.R_drewN | apply Kd.R_drew)); exact HO_272001.out) hb)
            have n6_ := Aside0.mk (Kd.R_below (by (with_reducible repeat (first | apply Kd.R_alloc | apply Kd.R_drewN | apply Kd.R_drew)); exact HO275.out) hb)
            have n7_ := Aside0.mk (Kd.R_below (by (with_reducible repeat (first | apply Kd.R_alloc | apply Kd.R_drewN | apply Kd.R_drew)); exact HO278.out) hb)
            have n8_ := Aside0.mk (blk_below (g := gb241) (o := .cells #[.slice A0_0 l0_0.length c0_0, .slice A0_1 l0_1.length c0_1] 24 (0, 0)) (by (with_reducible repeat (first | refine blk_drewN ?_ _ | refine blk_drew ?_ | refine blk_alloc ?_ _)); exact BK241.out) hb)
            have n9_ := Aside0.mk (blk_below (g := gb256) (o := .cells #[.slice Ao21 t249.length co21, .slice Ao24 t252.length co24] 26 (0, 0)) (by (with_reducible repeat (first | refine blk_drewN ?_ _ | refine blk_drew ?_ | refine blk_alloc ?_ _)); exact BK256.out) hb)
            have n10_ := Aside0.mk (blk_below (g := gb263) (o := .cells #[.slice Ao28 t257.length co28, .slice Ao32 t260.length co32] 26 (0, 0)) (by (with_reducible repeat (first | refine blk_drewN ?_ _ | refine blk_drew ?_ | refine blk_alloc ?_ _)); exact BK263.out) hb)
            have n11_ := Aside0.mk (blk_below (g := gb271) (o := .cells #[.slice Ao35 t264.length co35, .slice Ao40 t267.length co40] 26 (0, 0)) (by (with_reducible repeat (first | refine blk_drewN ?_ _ | refine blk_drew ?_ | refine blk_alloc ?_ _)); exact BK271.out) hb)
            have n12_ := Aside0.mk (below_step (by repeat (first | (with_reducible first | exact HB.out | apply below_alloc | apply pw_below_drewN | apply below_drew1 | refine below_set ?_ GE241.out | refine below_set ?_ GE256.out | refine below_set ?_ GE263.out | refine below_set ?_ GE271.out) | exact HB.out)) hb)
            clear HO_257000
            clear HO_257001
            clear HO_264000
            clear HO_264001
            clear HO_272000
            clear HO_272001
            clear HO275
            clear HO278
            clear BK241
            clear BK256
            clear BK263
            clear BK271
            clear HB
            have HO_257000 := n0_
            have HO_257001 := n1_
            have HO_264000 := n2_
            have HO_264001 := n3_
            have HO_272000 := n4_
            have HO_272001 := n5_
            have HO275 := n6_
            have HO278 := n7_
            have BK241 := n8_
            have BK256 := n9_
            have BK263 := n10_
            have BK271 := n11_
            have HB := n12_
            clear n0_ n1_ n2_ n3_ n4_ n5_ n6_ n7_ n8_ n9_ n10_ n11_ n12_
            (try clear hb)
            (try clear hb2)
            (try clear hk)
            (try clear hi)
            refine hK.out _ _ ⟨(blk_cell BK263.out 0).trans rfl, (blk_cell BK263.out 1).trans rfl, (blk_cell BK241.out 0).trans rfl, (blk_cell BK241.out 1).trans rfl⟩ (fun hHeld => ?_)
            clear hK K
            refine norm_ (a' := ?_) ?_ ?_
            rotate_left
            · show Act.put _ (some 44) _ = _
              simp only [Act.put, List.setIfInBounds_toArray, List.set_cons_zero, List.set_cons_succ, i64_w, i32_w]
              rfl
            refine pure_ (i := 4) (N := some 45) (v := ?_) (a' := ?_) #[true, true, true, true, true] rfl rfl (by kernel_rfl) (fun _ _ _ h => h) (Or.inl ⟨by rfl, ?_⟩) ?_ ?_
            rotate_left
            · intro w'
              go_simp
              with_reducible rfl
            rotate_left
            · simp only [Act.put, List.setIfInBounds_toArray, List.set_cons_zero, List.set_cons_succ, i64_w, i32_w]
              rfl
            refine done_ (by kernel_rfl) ?_
            have hnb62 := NB263_241.out
            have hnc62 := NB241_263.out
            have hnb63 := NB263_256.out
            have hnc63 := NB256_263.out
            have hnb64 := NB263_271.out
            have hnc64 := NB271_263.out
            have hcz65_0 : w61.cell? ⟨gb263, 0, none⟩ = some (.slice Ao28 t257.length co28) := (blk_cell BK263.out 0).trans rfl
            have hcz65_1 : w61.cell? ⟨gb263, 1, none⟩ = some (.slice Ao32 t260.length co32) := (blk_cell BK263.out 1).trans rfl
            have hfz65_0 := blk_frozen BK263.out 0
            have hfz65_1 := blk_frozen BK263.out 1
            go_upto_region 14 with (first | ((with_reducible refine gate_callee (f := 20) rfl ?_); refine goesL_ (some 48) rfl rfl Try.func20 (by kernel_rfl) rfl #[.agg #[.slice Ao28 t257.length co28, .slice Ao32 t260.length co32], .int .i64 1] rfl (by (try simp only [List.map_toArray, List.map_cons, List.map_nil]); first | done | rfl | (simp only [List.length_drop, List.length_take]; rfl)) ?_; (with_reducible refine (laws_markArray.calls kj10 (fun k_ => some k_ = (.slice Ao28 t257.length co28 : Value).ownBlock) (.slice Ao28 t257.length co28) t257 (fun k_ => some k_ = (.slice Ao32 t260.length co32 : Value).ownBlock) (.slice Ao32 t260.length co32) t260 1 t280 t281 t282 w _ ?side1 ?side2 ?side3 ?side4 ?side5 A55.out).mono ?_); (case side1 => repeat (first | (with_reducible first | exact HB.out | apply below_alloc | apply pw_below_drewN | apply below_drew1 | refine below_set ?_ GE241.out | refine below_set ?_ GE256.out | refine below_set ?_ GE263.out | refine below_set ?_ GE271.out) | exact HB.out)); (case side2 => exact Kd.R_tight rfl HO_264000.out); (case side3 => exact fun k_ e_ => (HO_264000.out.1 k_ e_.symm).1.1.2.2.1); (case side4 => exact Kd.R_tight rfl HO_264001.out); (case side5 => exact fun k_ e_ => (HO_264001.out.1 k_ e_.symm).1.1.2.2.1); rintro e w66 ⟨rfl, hy0, hy1, hb, hkp⟩; refine ⟨_, rfl, ?_⟩; have n0_ := Aside0.mk (Kd.R_mono (ok' := fun k_ => some k_ ≠ (.slice Ao24 t252.length co24 : Value).ownBlock ∧ some k_ ≠ (.slice Ao28 t257.length co28 : Value).ownBlock ∧ some k_ ≠ (.slice Ao32 t260.length co32 : Value).ownBlock ∧ some k_ ≠ (.slice Ao35 t264.length co35 : Value).ownBlock ∧ some k_ ≠ (.slice Ao40 t267.length co40 : Value).ownBlock ∧ some k_ ≠ (.slice Ao59 t273.length co59 : Value).ownBlock ∧ some k_ ≠ (.slice Ao60 t276.length co60 : Value).ownBlock) (Kd.R_keptB (HO_257000.out) hkp (fun k_ hk_ hs_ => Or.elim hs_ (fun e_ => (hk_.1.1.2.1) e_) (fun e_ => (hk_.1.1.2.2.1) e_))) (fun k_ hk_ => ⟨hk_.1.1.1.1, hk_.1.1.1.2.1, hk_.1.1.1.2.2.1, hk_.1.1.1.2.2.2.1, hk_.1.1.1.2.2.2.2, hk_.1.1.2, hk_.1.2⟩)); have n1_ := Aside0.mk (Kd.R_mono (ok' := fun k_ => some k_ ≠ (.slice Ao21 t249.length co21 : Value).ownBlock ∧ some k_ ≠ (.slice Ao28 t257.length co28 : Value).ownBlock ∧ some k_ ≠ (.slice Ao32 t260.length co32 : Value).ownBlock ∧ some k_ ≠ (.slice Ao35 t264.length co35 : Value).ownBlock ∧ some k_ ≠ (.slice Ao40 t267.length co40 : Value).ownBlock ∧ some k_ ≠ (.slice Ao59 t273.length co59 : Value).ownBlock ∧ some k_ ≠ (.slice Ao60 t276.length co60 : Value).ownBlock) (Kd.R_keptB (HO_257001.out) hkp (fun k_ hk_ hs_ => Or.elim hs_ (fun e_ => (hk_.1.1.2.1) e_) (fun e_ => (hk_.1.1.2.2.1) e_))) (fun k_ hk_ => ⟨hk_.1.1.1.1, hk_.1.1.1.2.1, hk_.1.1.1.2.2.1, hk_.1.1.1.2.2.2.1, hk_.1.1.1.2.2.2.2, hk_.1.1.2, hk_.1.2⟩)); have n2_ := Aside0.mk (Kd.R_reok rfl hy0 (fun k_ e_ => HO_264000.out.1 k_ e_)); have n3_ := Aside0.mk (Kd.R_reok rfl hy1 (fun k_ e_ => HO_264001.out.1 k_ e_)); have n4_ := Aside0.mk (Kd.R_mono (ok' := fun k_ => some k_ ≠ (.slice Ao21 t249.length co21 : Value).ownBlock ∧ some k_ ≠ (.slice Ao24 t252.length co24 : Value).ownBlock ∧ some k_ ≠ (.slice Ao28 t257.length co28 : Value).ownBlock ∧ some k_ ≠ (.slice Ao32 t260.length co32 : Value).ownBlock ∧ some k_ ≠ (.slice Ao40 t267.length co40 : Value).ownBlock ∧ some k_ ≠ (.slice Ao59 t273.length co59 : Value).ownBlock ∧ some k_ ≠ (.slice Ao60 t276.length co60 : Value).ownBlock) (Kd.R_keptB (HO_272000.out) hkp (fun k_ hk_ hs_ => Or.elim hs_ (fun e_ => (hk_.1.1.2.2.1) e_) (fun e_ => (hk_.1.1.2.2.2.1) e_))) (fun k_ hk_ => ⟨hk_.1.1.1.1, hk_.1.1.1.2.1, hk_.1.1.1.2.2.1, hk_.1.1.1.2.2.2.1, hk_.1.1.1.2.2.2.2, hk_.1.1.2, hk_.1.2⟩)); have n5_ := Aside0.mk (Kd.R_mono (ok' := fun k_ => some k_ ≠ (.slice Ao21 t249.length co21 : Value).ownBlock ∧ some k_ ≠ (.slice Ao24 t252.length co24 : Value).ownBlock ∧ some k_ ≠ (.slice Ao28 t257.length co28 : Value).ownBlock ∧ some k_ ≠ (.slice Ao32 t260.length co32 : Value).ownBlock ∧ some k_ ≠ (.slice Ao35 t264.length co35 : Value).ownBlock ∧ some k_ ≠ (.slice Ao59 t273.length co59 : Value).ownBlock ∧ some k_ ≠ (.slice Ao60 t276.length co60 : Value).ownBlock) (Kd.R_keptB (HO_272001.out) hkp (fun k_ hk_ hs_ => Or.elim hs_ (fun e_ => (hk_.1.1.2.2.1) e_) (fun e_ => (hk_.1.1.2.2.2.1) e_))) (fun k_ hk_ => ⟨hk_.1.1.1.1, hk_.1.1.1.2.1, hk_.1.1.1.2.2.1, hk_.1.1.1.2.2.2.1, hk_.1.1.1.2.2.2.2, hk_.1.1.2, hk_.1.2⟩)); have n6_ := Aside0.mk (blk_kept (by (with_reducible repeat (first | refine blk_drewN ?_ _ | refine blk_drew ?_ | refine blk_alloc ?_ _)); exact BK241.out) hkp (fun hs_ => Or.elim hs_ (fun e_ => (fun e_ => (Kd.R_ne HO_264000.out BK241.out (by decide)) e_) e_) (fun e_ => (fun e_ => (Kd.R_ne HO_264001.out BK241.out (by decide)) e_) e_))); have n7_ := Aside0.mk (blk_kept (by (with_reducible repeat (first | refine blk_drewN ?_ _ | refine blk_drew ?_ | refine blk_alloc ?_ _)); exact BK256.out) hkp (fun hs_ => Or.elim hs_ (fun e_ => (fun e_ => (Kd.R_ne HO_264000.out BK256.out (by decide)) e_) e_) (fun e_ => (fun e_ => (Kd.R_ne HO_264001.out BK256.out (by decide)) e_) e_))); have n8_ := Aside0.mk (blk_kept (by (with_reducible repeat (first | refine blk_drewN ?_ _ | refine blk_drew ?_ | refine blk_alloc ?_ _)); exact BK263.out) hkp (fun hs_ => Or.elim hs_ (fun e_ => (fun e_ => (Kd.R_ne HO_264000.out BK263.out (by decide)) e_) e_) (fun e_ => (fun e_ => (Kd.R_ne HO_264001.out BK263.out (by decide)) e_) e_))); have n9_ := Aside0.mk (blk_kept (by (with_reducible repeat (first | refine blk_drewN ?_ _ | refine blk_drew ?_ | refine blk_alloc ?_ _)); exact BK271.out) hkp (fun hs_ => Or.elim hs_ (fun e_ => (fun e_ => (Kd.R_ne HO_264000.out BK271.out (by decide)) e_) e_) (fun e_ => (fun e_ => (Kd.R_ne HO_264001.out BK271.out (by decide)) e_) e_))); have n10_ := Aside0.mk (Kd.R_mono (ok' := fun k_ => some k_ ≠ (.slice Ao21 t249.length co21 : Value).ownBlock ∧ some k_ ≠ (.slice Ao24 t252.length co24 : Value).ownBlock ∧ some k_ ≠ (.slice Ao28 t257.length co28 : Value).ownBlock ∧ some k_ ≠ (.slice Ao32 t260.length co32 : Value).ownBlock ∧ some k_ ≠ (.slice Ao35 t264.length co35 : Value).ownBlock ∧ some k_ ≠ (.slice Ao40 t267.length co40 : Value).ownBlock ∧ some k_ ≠ (.slice Ao60 t276.length co60 : Value).ownBlock) (Kd.R_keptB (HO275.out) hkp (fun k_ hk_ hs_ => Or.elim hs_ (fun e_ => (hk_.1.1.1.2) e_) (fun e_ => (hk_.1.1.2) e_))) (fun k_ hk_ => ⟨hk_.1.1.1.1.1.1.2, hk_.1.1.1.1.1.2, hk_.1.1.1.1.2, hk_.1.1.1.2, hk_.1.1.2, hk_.1.2, hk_.1.1.1.1.1.1.1⟩)); have n11_ := Aside0.mk (Kd.R_mono (ok' := fun k_ => some k_ ≠ (.slice Ao21 t249.length co21 : Value).ownBlock ∧ some k_ ≠ (.slice Ao24 t252.length co24 : Value).ownBlock ∧ some k_ ≠ (.slice Ao28 t257.length co28 : Value).ownBlock ∧ some k_ ≠ (.slice Ao32 t260.length co32 : Value).ownBlock ∧ some k_ ≠ (.slice Ao35 t264.length co35 : Value).ownBlock ∧ some k_ ≠ (.slice Ao40 t267.length co40 : Value).ownBlock ∧ some k_ ≠ (.slice Ao59 t273.length co59 : Value).ownBlock) (Kd.R_keptB (HO278.out) hkp (fun k_ hk_ hs_ => Or.elim hs_ (fun e_ => (hk_.1.1.1.2) e_) (fun e_ => (hk_.1.1.2) e_))) (fun k_ hk_ => ⟨hk_.1.1.1.1.1.1.2, hk_.1.1.1.1.1.2, hk_.1.1.1.1.2, hk_.1.1.1.2, hk_.1.1.2, hk_.1.2, hk_.1.1.1.1.1.1.1⟩)); have n12_ := Aside0.mk (hb); clear HO_257000; clear HO_257001; clear HO_264000; clear HO_264001; clear HO_272000; clear HO_272001; clear BK241; clear BK256; clear BK263; clear BK271; clear HO275; clear HO278; clear HB; have HO_257000 := n0_; have HO_257001 := n1_; have HO_264000 := n2_; have HO_264001 := n3_; have HO_272000 := n4_; have HO_272001 := n5_; have BK241 := n6_; have BK256 := n7_; have BK263 := n8_; have BK271 := n9_; have HO275 := n10_; have HO278 := n11_; have HB := n12_; clear n0_ n1_ n2_ n3_ n4_ n5_ n6_ n7_ n8_ n9_ n10_ n11_ n12_; (try clear hb); (try clear hkp); (try clear hy0); (try clear hy1)))
            (try simp only [Act.put, List.setIfInBounds_toArray, List.set_cons_zero, List.set_cons_succ])
            go_cut [61] (fun v61 wc => ∃ (kq : Nat) (x61_55 : Bool), v61 = .bool x61_55 ∧ Aside0 (laws_FnExactFlip.j1 kq t255 x61_55 l0_0 l0_1 t249 t252 t264 t267 = some r) ∧ Aside0 (kq ≤ kj10) ∧ Aside0 (Kd.R (Kd.int .i64) 3 wc w.heap.size (fun k_ => some k_ ≠ ((.slice Ao24 t252.length co24) : Value).ownBlock ∧ some k_ ≠ ((.slice Ao28 t257.length co28) : Value).ownBlock ∧ some k_ ≠ ((.slice Ao32 t260.length co32) : Value).ownBlock ∧ some k_ ≠ ((.slice Ao35 t264.length co35) : Value).ownBlock ∧ some k_ ≠ ((.slice Ao40 t267.length co40) : Value).ownBlock) (.slice Ao21 t249.length co21) t249) ∧ Aside0 (Kd.R (Kd.int .i64) 3 wc w.heap.size (fun k_ => some k_ ≠ ((.slice Ao21 t249.length co21) : Value).ownBlock ∧ some k_ ≠ ((.slice Ao28 t257.length co28) : Value).ownBlock ∧ some k_ ≠ ((.slice Ao32 t260.length co32) : Value).ownBlock ∧ some k_ ≠ ((.slice Ao35 t264.length co35) : Value).ownBlock ∧ some k_ ≠ ((.slice Ao40 t267.length co40) : Value).ownBlock) (.slice Ao24 t252.length co24) t252) ∧ Aside0 (Kd.R (Kd.int .i64) 3 wc w.heap.size (fun k_ => some k_ ≠ ((.slice Ao21 t249.length co21) : Value).ownBlock ∧ some k_ ≠ ((.slice Ao24 t252.length co24) : Value).ownBlock ∧ some k_ ≠ ((.slice Ao32 t260.length co32) : Value).ownBlock ∧ some k_ ≠ ((.slice Ao35 t264.length co35) : Value).ownBlock ∧ some k_ ≠ ((.slice Ao40 t267.length co40) : Value).ownBlock) (.slice Ao28 t257.length co28) t281) ∧ Aside0 (Kd.R (Kd.int .i64) 3 wc w.heap.size (fun k_ => some k_ ≠ ((.slice Ao21 t249.length co21) : Value).ownBlock ∧ some k_ ≠ ((.slice Ao24 t252.length co24) : Value).ownBlock ∧ some k_ ≠ ((.slice Ao28 t257.length co28) : Value).ownBlock ∧ some k_ ≠ ((.slice Ao35 t264.length co35) : Value).ownBlock ∧ some k_ ≠ ((.slice Ao40 t267.length co40) : Value).ownBlock) (.slice Ao32 t260.length co32) t282) ∧ Aside0 (Kd.R (Kd.int .i64) 3 wc w.heap.size (fun k_ => some k_ ≠ ((.slice Ao21 t249.length co21) : Value).ownBlock ∧ some k_ ≠ ((.slice Ao24 t252.length co24) : Value).ownBlock ∧ some k_ ≠ ((.slice Ao28 t257.length co28) : Value).ownBlock ∧ some k_ ≠ ((.slice Ao32 t260.length co32) : Value).ownBlock ∧ some k_ ≠ ((.slice Ao40 t267.length co40) : Value).ownBlock) (.slice Ao35 t264.length co35) t264) ∧ Aside0 (Kd.R (Kd.int .i64) 3 wc w.heap.size (fun k_ => some k_ ≠ ((.slice Ao21 t249.length co21) : Value).ownBlock ∧ some k_ ≠ ((.slice Ao24 t252.length co24) : Value).ownBlock ∧ some k_ ≠ ((.slice Ao28 t257.length co28) : Value).ownBlock ∧ some k_ ≠ ((.slice Ao32 t260.length co32) : Value).ownBlock ∧ some k_ ≠ ((.slice Ao35 t264.length co35) : Value).ownBlock) (.slice Ao40 t267.length co40) t267) ∧ Aside0 (wc.heap[gb241]? = some (.cells #[(.slice A0_0 l0_0.length c0_0), (.slice A0_1 l0_1.length c0_1)] 24 (0, 0))) ∧ Aside0 (wc.heap[gb256]? = some (.cells #[(.slice Ao21 t249.length co21), (.slice Ao24 t252.length co24)] 26 (0, 0))) ∧ Aside0 (wc.heap[gb263]? = some (.cells #[(.slice Ao28 t257.length co28), (.slice Ao32 t260.length co32)] 26 (0, 0))) ∧ Aside0 (wc.heap[gb271]? = some (.cells #[(.slice Ao35 t264.length co35), (.slice Ao40 t267.length co40)] 26 (0, 0))) ∧ Aside0 (Below w.heap.size w wc))
            case first =>
              have H := HC56.out
              clear HC56
              by_cases c67 : t280 < 0
              · rw [if_pos c67] at H
                have c67b0 : decide (t280 < 0) = true := decide_eq_true c67
                clear c67
                (first | rw [c67b0] | (simp only [i64_w, i32_w]; rw [c67b0]) | skip)
                have hz_ : ∀ kz, laws_FnExactFlip.j1 kz t255 true l0_0 l0_1 t249 t252 t264 t267 = some r → r = false := by intro kz hz; cases kz with | zero => exact absurd hz (by simp [laws_FnExactFlip.j1]) | succ kz => simp only [laws_FnExactFlip.j1] at hz; first | (rw [if_pos rfl] at hz; exact (Option.some.inj hz).symm) | (simp at hz; exact hz.symm) | (simp at hz; exact hz)
                exact absurd (HT.out.symm.trans (hz_ _ H)) (by decide)
              · rw [if_neg c67] at H
                have c67b0 : decide (t280 < 0) = false := decide_eq_false c67
                clear c67
                (first | rw [c67b0] | (simp only [i64_w, i32_w]; rw [c67b0]) | skip)
                replace H := Option.bind_eq_some_iff.mp H
                obtain ⟨t283, A680, H⟩ := H
                replace H : (if t283 = true then (laws_FnExactFlip.j1 kj10 t255 (t270 != t255) l0_0 l0_1 t249 t252 t264 t267) else (laws_FnExactFlip.j1 kj10 t255 true l0_0 l0_1 t249 t252 t264 t267)) = some r := H
                have A68 := Aside0.mk A680
                clear A680
                by_cases c69 : t283 = true
                · subst c69
                  have H1 : (laws_FnExactFlip.j1 kj10 t255 (t270 != t255) l0_0 l0_1 t249 t252 t264 t267) = some r := by rw [if_pos rfl] at H; exact H
                  clear H
                  have H := H1
                  clear H1
                  have H' := Aside0.mk H
                  clear H
                  have hnb70 := NB271_241.out
                  have hnc70 := NB241_271.out
                  have hnb71 := NB271_256.out
                  have hnc71 := NB256_271.out
                  have hnb72 := NB271_263.out
                  have hnc72 := NB263_271.out
                  have hcz73_0 : w66.cell? ⟨gb271, 0, none⟩ = some (.slice Ao35 t264.length co35) := (blk_cell BK271.out 0).trans rfl
                  have hcz73_1 : w66.cell? ⟨gb271, 1, none⟩ = some (.slice Ao40 t267.length co40) := (blk_cell BK271.out 1).trans rfl
                  have hfz73_0 := blk_frozen BK271.out 0
                  have hfz73_1 := blk_frozen BK271.out 1
                  have hnb74 := NB256_241.out
                  have hnc74 := NB241_256.out
                  have hnb75 := NB256_263.out
                  have hnc75 := NB263_256.out
                  have hcz76_0 : w66.cell? ⟨gb256, 0, none⟩ = some (.slice Ao21 t249.length co21) := (blk_cell BK256.out 0).trans rfl
                  have hcz76_1 : w66.cell? ⟨gb256, 1, none⟩ = some (.slice Ao24 t252.length co24) := (blk_cell BK256.out 1).trans rfl
                  have hfz76_0 := blk_frozen BK256.out 0
                  have hfz76_1 := blk_frozen BK256.out 1
                  go_wp2_with (first | (go_at_call 19; (repeat rw [i64_w]); (with_reducible refine (laws_eqArray.calls kj10 _ _ t264 _ _ t267 _ _ t249 _ _ t252 true _ ?side1 ?side2 ?side3 ?side4 ?side5 ?side6 ?side7 ?side8 A68.out).mono ?_); (case side1 => repeat (first | exact (Kd.R_reads' HO_272000.out).2.2 | (with_reducible refine Kd.C_alloc ?_ _) | (with_reducible refine Kd.C_drewN ?_ _) | (with_reducible refine Kd.C_drew ?_))); (case side2 => exact (Kd.R_reads' HO_272000.out).2.1); (case side3 => repeat (first | exact (Kd.R_reads' HO_272001.out).2.2 | (with_reducible refine Kd.C_alloc ?_ _) | (with_reducible refine Kd.C_drewN ?_ _) | (with_reducible refine Kd.C_drew ?_))); (case side4 => exact (Kd.R_reads' HO_272001.out).2.1); (case side5 => repeat (first | exact (Kd.R_reads' HO_257000.out).2.2 | (with_reducible refine Kd.C_alloc ?_ _) | (with_reducible refine Kd.C_drewN ?_ _) | (with_reducible refine Kd.C_drew ?_))); (case side6 => exact (Kd.R_reads' HO_257000.out).2.1); (case side7 => repeat (first | exact (Kd.R_reads' HO_257001.out).2.2 | (with_reducible refine Kd.C_alloc ?_ _) | (with_reducible refine Kd.C_drewN ?_ _) | (with_reducible refine Kd.C_drew ?_))); (case side8 => exact (Kd.R_reads' HO_257001.out).2.1); rintro e w77 ⟨rfl, hb⟩; have n0_ := Aside0.mk (Kd.R_below (by (with_reducible repeat (first | apply Kd.R_alloc | apply Kd.R_drewN | apply Kd.R_drew)); exact HO_257000.out) hb); have n1_ := Aside0.mk (Kd.R_below (by (with_reducible repeat (first | apply Kd.R_alloc | apply Kd.R_drewN | apply Kd.R_drew)); exact HO_257001.out) hb); have n2_ := Aside0.mk (Kd.R_below (by (with_reducible repeat (first | apply Kd.R_alloc | apply Kd.R_drewN | apply Kd.R_drew)); exact HO_264000.out) hb); have n3_ := Aside0.mk (Kd.R_below (by (with_reducible repeat (first | apply Kd.R_alloc | apply Kd.R_drewN | apply Kd.R_drew)); exact HO_264001.out) hb); have n4_ := Aside0.mk (Kd.R_below (by (with_reducible repeat (first | apply Kd.R_alloc | apply Kd.R_drewN | apply Kd.R_drew)); exact HO_272000.out) hb); have n5_ := Aside0.mk (Kd.R_below (by (with_reducible repeat (first | apply Kd.R_alloc | apply Kd.R_drewN | apply Kd.R_drew)); exact HO_272001.out) hb); have n6_ := Aside0.mk (Kd.R_below (by (with_reducible repeat (first | apply Kd.R_alloc | apply Kd.R_drewN | apply Kd.R_drew)); exact HO275.out) hb); have n7_ := Aside0.mk (Kd.R_below (by (with_reducible repeat (first | apply Kd.R_alloc | apply Kd.R_drewN | apply Kd.R_drew)); exact HO278.out) hb); have n8_ := Aside0.mk (blk_below (g := gb241) (o := .cells #[.slice A0_0 l0_0.length c0_0, .slice A0_1 l0_1.length c0_1] 24 (0, 0)) (by (with_reducible repeat (first | refine blk_drewN ?_ _ | refine blk_drew ?_ | refine blk_alloc ?_ _)); exact BK241.out) hb); have n9_ := Aside0.mk (blk_below (g := gb256) (o := .cells #[.slice Ao21 t249.length co21, .slice Ao24 t252.length co24] 26 (0, 0)) (by (with_reducible repeat (first | refine blk_drewN ?_ _ | refine blk_drew ?_ | refine blk_alloc ?_ _)); exact BK256.out) hb); have n10_ := Aside0.mk (blk_below (g := gb263) (o := .cells #[.slice Ao28 t257.length co28, .slice Ao32 t260.length co32] 26 (0, 0)) (by (with_reducible repeat (first | refine blk_drewN ?_ _ | refine blk_drew ?_ | refine blk_alloc ?_ _)); exact BK263.out) hb); have n11_ := Aside0.mk (blk_below (g := gb271) (o := .cells #[.slice Ao35 t264.length co35, .slice Ao40 t267.length co40] 26 (0, 0)) (by (with_reducible repeat (first | refine blk_drewN ?_ _ | refine blk_drew ?_ | refine blk_alloc ?_ _)); exact BK271.out) hb); have n12_ := Aside0.mk (below_step (by repeat (first | (with_reducible first | exact HB.out | apply below_alloc | apply pw_below_drewN | apply below_drew1 | refine below_set ?_ GE241.out | refine below_set ?_ GE256.out | refine below_set ?_ GE263.out | refine below_set ?_ GE271.out) | exact HB.out)) hb); clear HO_257000; clear HO_257001; clear HO_264000; clear HO_264001; clear HO_272000; clear HO_272001; clear HO275; clear HO278; clear BK241; clear BK256; clear BK263; clear BK271; clear HB; have HO_257000 := n0_; have HO_257001 := n1_; have HO_264000 := n2_; have HO_264001 := n3_; have HO_272000 := n4_; have HO_272001 := n5_; have HO275 := n6_; have HO278 := n7_; have BK241 := n8_; have BK256 := n9_; have BK263 := n10_; have BK271 := n11_; have HB := n12_; clear n0_ n1_ n2_ n3_ n4_ n5_ n6_ n7_ n8_ n9_ n10_ n11_ n12_; (try clear hb); (try clear hb2); (try clear hk); (try clear hi)))
                  go_meet
                  case rel => exact ⟨_, ((t270 != t255)), (by first | rfl | (simp; done) | (simp [*]; done)), H', ⟨by have := HJ10.out; first | omega | exact Nat.le_refl _⟩, ⟨by (with_reducible repeat (first | apply Kd.R_alloc | apply Kd.R_drewN | apply Kd.R_drew)); exact Kd.R_mono HO_257000.out (fun _ hk => ⟨hk.1, ⟨hk.2.1, ⟨hk.2.2.1, ⟨hk.2.2.2.1, hk.2.2.2.2.1⟩⟩⟩⟩)⟩, ⟨by (with_reducible repeat (first | apply Kd.R_alloc | apply Kd.R_drewN | apply Kd.R_drew)); exact Kd.R_mono HO_257001.out (fun _ hk => ⟨hk.1, ⟨hk.2.1, ⟨hk.2.2.1, ⟨hk.2.2.2.1, hk.2.2.2.2.1⟩⟩⟩⟩)⟩, ⟨by (with_reducible repeat (first | apply Kd.R_alloc | apply Kd.R_drewN | apply Kd.R_drew)); exact Kd.R_mono HO_264000.out (fun _ hk => ⟨hk.1.1.1, ⟨hk.1.1.2.1, ⟨hk.1.1.2.2.1, ⟨hk.1.1.2.2.2.1, hk.1.1.2.2.2.2⟩⟩⟩⟩)⟩, ⟨by (with_reducible repeat (first | apply Kd.R_alloc | apply Kd.R_drewN | apply Kd.R_drew)); exact Kd.R_mono HO_264001.out (fun _ hk => ⟨hk.1.1.1, ⟨hk.1.1.2.1, ⟨hk.1.1.2.2.1, ⟨hk.1.1.2.2.2.1, hk.1.1.2.2.2.2⟩⟩⟩⟩)⟩, ⟨by (with_reducible repeat (first | apply Kd.R_alloc | apply Kd.R_drewN | apply Kd.R_drew)); exact Kd.R_mono HO_272000.out (fun _ hk => ⟨hk.1, ⟨hk.2.1, ⟨hk.2.2.1, ⟨hk.2.2.2.1, hk.2.2.2.2.1⟩⟩⟩⟩)⟩, ⟨by (with_reducible repeat (first | apply Kd.R_alloc | apply Kd.R_drewN | apply Kd.R_drew)); exact Kd.R_mono HO_272001.out (fun _ hk => ⟨hk.1, ⟨hk.2.1, ⟨hk.2.2.1, ⟨hk.2.2.2.1, hk.2.2.2.2.1⟩⟩⟩⟩)⟩, ⟨by (with_reducible repeat (first | refine blk_drewN ?_ _ | refine blk_drew ?_ | refine blk_alloc ?_ _)); exact BK241.out⟩, ⟨by (with_reducible repeat (first | refine blk_drewN ?_ _ | refine blk_drew ?_ | refine blk_alloc ?_ _)); exact BK256.out⟩, ⟨by (with_reducible repeat (first | refine blk_drewN ?_ _ | refine blk_drew ?_ | refine blk_alloc ?_ _)); exact BK263.out⟩, ⟨by (with_reducible repeat (first | refine blk_drewN ?_ _ | refine blk_drew ?_ | refine blk_alloc ?_ _)); exact BK271.out⟩, ⟨by repeat (first | (with_reducible first | exact HB.out | apply below_alloc | apply pw_below_drewN | apply below_drew1 | refine below_set ?_ GE241.out | refine below_set ?_ GE256.out | refine below_set ?_ GE263.out | refine below_set ?_ GE271.out) | exact HB.out)⟩⟩
                · replace c69 := Bool.eq_false_iff.mpr c69
                  subst c69
                  have H1 : (laws_FnExactFlip.j1 kj10 t255 true l0_0 l0_1 t249 t252 t264 t267) = some r := by rw [if_neg (show ¬ (false = true) by decide)] at H; exact H
                  clear H
                  have H := H1
                  clear H1
                  have hz_ : ∀ kz, laws_FnExactFlip.j1 kz t255 true l0_0 l0_1 t249 t252 t264 t267 = some r → r = false := by intro kz hz; cases kz with | zero => exact absurd hz (by simp [laws_FnExactFlip.j1]) | succ kz => simp only [laws_FnExactFlip.j1] at hz; first | (rw [if_pos rfl] at hz; exact (Option.some.inj hz).symm) | (simp at hz; exact hz.symm) | (simp at hz; exact hz)
                  exact absurd (HT.out.symm.trans (hz_ _ H)) (by decide)
            case rest =>
              clear HC56
              try clear c1
              try clear c2
              try clear p2
              try clear c3
              try clear c3b0
              try clear c4
              try clear c5
              try clear c6
              try clear c7
              try clear c8
              try clear c15
              try clear c17
              try clear c19
              try clear c20
              try clear c22
              try clear c29
              try clear c30
              try clear c36
              try clear c37
              try clear c38
              try clear c41
              try clear c42
              try clear c43
              try clear c44
              try clear c45
              try clear c47
              try clear c48
              try clear c51
              try clear c54
              try clear c62
              try clear c63
              try clear c64
              try clear c67
              try clear c67b0
              try clear c69
              try clear c70
              try clear c71
              try clear c72
              try clear c74
              try clear c75
              try clear hcz13_0
              try clear hcz13_1
              try clear hcz15_0
              try clear hcz15_1
              try clear hcz23_0
              try clear hcz23_1
              try clear hcz25_0
              try clear hcz25_1
              try clear hcz31_0
              try clear hcz31_1
              try clear hcz39_0
              try clear hcz39_1
              try clear hcz46_0
              try clear hcz46_1
              try clear hcz49_0
              try clear hcz49_1
              try clear hcz5_0
              try clear hcz5_1
              try clear hcz65_0
              try clear hcz65_1
              try clear hcz73_0
              try clear hcz73_1
              try clear hcz76_0
              try clear hcz76_1
              try clear hfz13_0
              try clear hfz13_1
              try clear hfz15_0
              try clear hfz15_1
              try clear hfz23_0
              try clear hfz23_1
              try clear hfz25_0
              try clear hfz25_1
              try clear hfz31_0
              try clear hfz31_1
              try clear hfz39_0
              try clear hfz39_1
              try clear hfz46_0
              try clear hfz46_1
              try clear hfz49_0
              try clear hfz49_1
              try clear hfz5_0
              try clear hfz5_1
              try clear hfz65_0
              try clear hfz65_1
              try clear hfz73_0
              try clear hfz73_1
              try clear hfz76_0
              try clear hfz76_1
              try clear p2
              obtain ⟨kq, x61_55, rfl, HA, HJ55, HO_257000, HO_257001, HO_264000, HO_264001, HO_272000, HO_272001, BK241, BK256, BK263, BK271, HB⟩ := hcut
              have hl264000_55 := (Kd.R_reads' HO_264000.out).1
              rw [hl264000_55] at HO_264000
              (try simp only [hl264000_55])
              (try simp only [hl264000_55] at BK241)
              (try simp only [hl264000_55] at BK256)
              (try simp only [hl264000_55] at BK263)
              (try simp only [hl264000_55] at BK271)
              (try simp only [hl264000_55] at HO_257000)
              (try simp only [hl264000_55] at HO_257001)
              (try simp only [hl264000_55] at HO_264001)
              (try simp only [hl264000_55] at HO_272000)
              (try simp only [hl264000_55] at HO_272001)
              have hl264001_55 := (Kd.R_reads' HO_264001.out).1
              rw [hl264001_55] at HO_264001
              (try simp only [hl264001_55])
              (try simp only [hl264001_55] at BK241)
              (try simp only [hl264001_55] at BK256)
              (try simp only [hl264001_55] at BK263)
              (try simp only [hl264001_55] at BK271)
              (try simp only [hl264001_55] at HO_257000)
              (try simp only [hl264001_55] at HO_257001)
              (try simp only [hl264001_55] at HO_264000)
              (try simp only [hl264001_55] at HO_272000)
              (try simp only [hl264001_55] at HO_272001)
              cases kq with
              | zero => exact absurd HA.out (by simp [laws_FnExactFlip.j1])
              | succ kj55 =>
                have H := HA.out
                clear HA
                simp only [laws_FnExactFlip.j1] at H
                by_cases c78 : x61_55 = true
                · subst c78
                  have H1 : (some false) = some r := by rw [if_pos rfl] at H; exact H
                  clear H
                  have H := H1
                  clear H1
                  obtain rfl := Option.some.inj H
                  exact absurd HT.out (by decide)
                · replace c78 := Bool.eq_false_iff.mpr c78
                  subst c78
                  have H1 : ((laws_markArray.f kj55 t264 t267 1).bind fun bt284 => ((laws_heldArray.f kj55 bt284.2.1 bt284.2.2 1).bind fun t287 => (if t287 < 0 then (some false) else (if t287 = bt284.1 then ((laws_toArray.f kj55 l0_0 l0_1).bind fun bt288 => ((impl_Flip.f kj55 bt288.1 bt288.2).bind fun bt294 => ((laws_eqArray.f kj55 bt294.1 bt294.2.1 t249 t252).bind fun t302 => (if t302 = true then (laws_FnExactFlip.j2 kj55 bt284.1 (bt294.2.2 != t255) bt284.2.1 bt284.2.2) else (laws_FnExactFlip.j2 kj55 bt284.1 true bt284.2.1 bt284.2.2))))) else (some false))))) = some r := by rw [if_neg (show ¬ (false = true) by decide)] at H; exact H
                  clear H
                  have H := H1
                  clear H1
                  replace H := Option.bind_eq_some_iff.mp H
                  obtain ⟨⟨t284, t285, t286⟩, A790, H⟩ := H
                  replace H : ((laws_heldArray.f kj55 t285 t286 1).bind fun t287 => (if t287 < 0 then (some false) else (if t287 = t284 then ((laws_toArray.f kj55 l0_0 l0_1).bind fun bt288 => ((impl_Flip.f kj55 bt288.1 bt288.2).bind fun bt294 => ((laws_eqArray.f kj55 bt294.1 bt294.2.1 t249 t252).bind fun t302 => (if t302 = true then (laws_FnExactFlip.j2 kj55 t284 (bt294.2.2 != t255) t285 t286) else (laws_FnExactFlip.j2 kj55 t284 true t285 t286))))) else (some false)))) = some r := H
                  have A79 := Aside0.mk A790
                  clear A790
                  replace H := Option.bind_eq_some_iff.mp H
                  obtain ⟨t287, A800, H⟩ := H
                  replace H : (if t287 < 0 then (some false) else (if t287 = t284 then ((laws_toArray.f kj55 l0_0 l0_1).bind fun bt288 => ((impl_Flip.f kj55 bt288.1 bt288.2).bind fun bt294 => ((laws_eqArray.f kj55 bt294.1 bt294.2.1 t249 t252).bind fun t302 => (if t302 = true then (laws_FnExactFlip.j2 kj55 t284 (bt294.2.2 != t255) t285 t286) else (laws_FnExactFlip.j2 kj55 t284 true t285 t286))))) else (some false))) = some r := H
                  have A80 := Aside0.mk A800
                  clear A800
                  by_cases c81 : t287 < 0
                  · rw [if_pos c81] at H
                    have c81b0 : decide (t287 < 0) = true := decide_eq_true c81
                    clear c81
                    obtain rfl := Option.some.inj H
                    exact absurd HT.out (by decide)
                  · rw [if_neg c81] at H
                    have c81b0 : decide (t287 < 0) = false := decide_eq_false c81
                    clear c81
                    by_cases c82 : t287 = t284
                    · rw [if_pos c82] at H
                      have c82b0 : (t287 == t284) = true := beq_iff_eq.mpr c82
                      have c82b1 : (t287 != t284) = false := bne_eq_false_iff_eq.mpr c82
                      clear c82
                      replace H := Option.bind_eq_some_iff.mp H
                      obtain ⟨⟨t288, t291⟩, A830, H⟩ := H
                      replace H : ((impl_Flip.f kj55 t288 t291).bind fun bt294 => ((laws_eqArray.f kj55 bt294.1 bt294.2.1 t249 t252).bind fun t302 => (if t302 = true then (laws_FnExactFlip.j2 kj55 t284 (bt294.2.2 != t255) t285 t286) else (laws_FnExactFlip.j2 kj55 t284 true t285 t286)))) = some r := H
                      have A83 := Aside0.mk A830
                      clear A830
                      replace H := Option.bind_eq_some_iff.mp H
                      obtain ⟨⟨t294, t297, t300⟩, A840, H⟩ := H
                      replace H : ((laws_eqArray.f kj55 t294 t297 t249 t252).bind fun t302 => (if t302 = true then (laws_FnExactFlip.j2 kj55 t284 (t300 != t255) t285 t286) else (laws_FnExactFlip.j2 kj55 t284 true t285 t286))) = some r := H
                      have A84 := Aside0.mk A840
                      clear A840
                      have HC85 := Aside0.mk H
                      clear H
                      have hnb86 := NB271_241.out
                      have hnc86 := NB241_271.out
                      have hnb87 := NB271_256.out
                      have hnc87 := NB256_271.out
                      have hnb88 := NB271_263.out
                      have hnc88 := NB263_271.out
                      have hcz89_0 : wc.cell? ⟨gb271, 0, none⟩ = some (.slice Ao35 t264.length co35) := (blk_cell BK271.out 0).trans rfl
                      have hcz89_1 : wc.cell? ⟨gb271, 1, none⟩ = some (.slice Ao40 t267.length co40) := (blk_cell BK271.out 1).trans rfl
                      have hfz89_0 := blk_frozen BK271.out 0
                      have hfz89_1 := blk_frozen BK271.out 1
                      go_upto_region 25 with (first | ((with_reducible refine gate_callee (f := 20) rfl ?_); refine goesL_ (some 64) rfl rfl Try.func20 (by kernel_rfl) rfl #[.agg #[.slice Ao35 t264.length co35, .slice Ao40 t267.length co40], .int .i64 1] rfl (by (try simp only [List.map_toArray, List.map_cons, List.map_nil]); first | done | rfl | (simp only [List.length_drop, List.length_take]; rfl)) ?_; (with_reducible refine (laws_markArray.calls kj55 (fun k_ => some k_ = (.slice Ao35 t264.length co35 : Value).ownBlock) (.slice Ao35 t264.length co35) t264 (fun k_ => some k_ = (.slice Ao40 t267.length co40 : Value).ownBlock) (.slice Ao40 t267.length co40) t267 1 t284 t285 t286 w _ ?side1 ?side2 ?side3 ?side4 ?side5 A79.out).mono ?_); (case side1 => repeat (first | (with_reducible first | exact HB.out | apply below_alloc | apply pw_below_drewN | apply below_drew1 | refine below_set ?_ GE241.out | refine below_set ?_ GE256.out | refine below_set ?_ GE263.out | refine below_set ?_ GE271.out) | exact HB.out)); (case side2 => exact Kd.R_tight rfl HO_272000.out); (case side3 => exact fun k_ e_ => (HO_272000.out.1 k_ e_.symm).2.2.2.2); (case side4 => exact Kd.R_tight rfl HO_272001.out); (case side5 => exact fun k_ e_ => (HO_272001.out.1 k_ e_.symm).2.2.2.2); rintro e w90 ⟨rfl, hy0, hy1, hb, hkp⟩; refine ⟨_, rfl, ?_⟩; have n0_ := Aside0.mk (Kd.R_mono (ok' := fun k_ => some k_ ≠ (.slice Ao24 t252.length co24 : Value).ownBlock ∧ some k_ ≠ (.slice Ao28 t281.length co28 : Value).ownBlock ∧ some k_ ≠ (.slice Ao32 t282.length co32 : Value).ownBlock ∧ some k_ ≠ (.slice Ao35 t264.length co35 : Value).ownBlock ∧ some k_ ≠ (.slice Ao40 t267.length co40 : Value).ownBlock) (Kd.R_keptB (HO_257000.out) hkp (fun k_ hk_ hs_ => Or.elim hs_ (fun e_ => (hk_.2.2.2.1) e_) (fun e_ => (hk_.2.2.2.2) e_))) (fun k_ hk_ => ⟨hk_.1.1, hk_.1.2.1, hk_.1.2.2.1, hk_.1.2.2.2.1, hk_.1.2.2.2.2⟩)); have n1_ := Aside0.mk (Kd.R_mono (ok' := fun k_ => some k_ ≠ (.slice Ao21 t249.length co21 : Value).ownBlock ∧ some k_ ≠ (.slice Ao28 t281.length co28 : Value).ownBlock ∧ some k_ ≠ (.slice Ao32 t282.length co32 : Value).ownBlock ∧ some k_ ≠ (.slice Ao35 t264.length co35 : Value).ownBlock ∧ some k_ ≠ (.slice Ao40 t267.length co40 : Value).ownBlock) (Kd.R_keptB (HO_257001.out) hkp (fun k_ hk_ hs_ => Or.elim hs_ (fun e_ => (hk_.2.2.2.1) e_) (fun e_ => (hk_.2.2.2.2) e_))) (fun k_ hk_ => ⟨hk_.1.1, hk_.1.2.1, hk_.1.2.2.1, hk_.1.2.2.2.1, hk_.1.2.2.2.2⟩)); have n2_ := Aside0.mk (Kd.R_mono (ok' := fun k_ => some k_ ≠ (.slice Ao21 t249.length co21 : Value).ownBlock ∧ some k_ ≠ (.slice Ao24 t252.length co24 : Value).ownBlock ∧ some k_ ≠ (.slice Ao32 t282.length co32 : Value).ownBlock ∧ some k_ ≠ (.slice Ao35 t264.length co35 : Value).ownBlock ∧ some k_ ≠ (.slice Ao40 t267.length co40 : Value).ownBlock) (Kd.R_keptB (HO_264000.out) hkp (fun k_ hk_ hs_ => Or.elim hs_ (fun e_ => (hk_.2.2.2.1) e_) (fun e_ => (hk_.2.2.2.2) e_))) (fun k_ hk_ => ⟨hk_.1.1, hk_.1.2.1, hk_.1.2.2.1, hk_.1.2.2.2.1, hk_.1.2.2.2.2⟩)); have n3_ := Aside0.mk (Kd.R_mono (ok' := fun k_ => some k_ ≠ (.slice Ao21 t249.length co21 : Value).ownBlock ∧ some k_ ≠ (.slice Ao24 t252.length co24 : Value).ownBlock ∧ some k_ ≠ (.slice Ao28 t281.length co28 : Value).ownBlock ∧ some k_ ≠ (.slice Ao35 t264.length co35 : Value).ownBlock ∧ some k_ ≠ (.slice Ao40 t267.length co40 : Value).ownBlock) (Kd.R_keptB (HO_264001.out) hkp (fun k_ hk_ hs_ => Or.elim hs_ (fun e_ => (hk_.2.2.2.1) e_) (fun e_ => (hk_.2.2.2.2) e_))) (fun k_ hk_ => ⟨hk_.1.1, hk_.1.2.1, hk_.1.2.2.1, hk_.1.2.2.2.1, hk_.1.2.2.2.2⟩)); have n4_ := Aside0.mk (Kd.R_reok rfl hy0 (fun k_ e_ => HO_272000.out.1 k_ e_)); have n5_ := Aside0.mk (Kd.R_reok rfl hy1 (fun k_ e_ => HO_272001.out.1 k_ e_)); have n6_ := Aside0.mk (blk_kept (by (with_reducible repeat (first | refine blk_drewN ?_ _ | refine blk_drew ?_ | refine blk_alloc ?_ _)); exact BK241.out) hkp (fun hs_ => Or.elim hs_ (fun e_ => (fun e_ => (Kd.R_ne HO_272000.out BK241.out (by decide)) e_) e_) (fun e_ => (fun e_ => (Kd.R_ne HO_272001.out BK241.out (by decide)) e_) e_))); have n7_ := Aside0.mk (blk_kept (by (with_reducible repeat (first | refine blk_drewN ?_ _ | refine blk_drew ?_ | refine blk_alloc ?_ _)); exact BK256.out) hkp (fun hs_ => Or.elim hs_ (fun e_ => (fun e_ => (Kd.R_ne HO_272000.out BK256.out (by decide)) e_) e_) (fun e_ => (fun e_ => (Kd.R_ne HO_272001.out BK256.out (by decide)) e_) e_))); have n8_ := Aside0.mk (blk_kept (by (with_reducible repeat (first | refine blk_drewN ?_ _ | refine blk_drew ?_ | refine blk_alloc ?_ _)); exact BK263.out) hkp (fun hs_ => Or.elim hs_ (fun e_ => (fun e_ => (Kd.R_ne HO_272000.out BK263.out (by decide)) e_) e_) (fun e_ => (fun e_ => (Kd.R_ne HO_272001.out BK263.out (by decide)) e_) e_))); have n9_ := Aside0.mk (blk_kept (by (with_reducible repeat (first | refine blk_drewN ?_ _ | refine blk_drew ?_ | refine blk_alloc ?_ _)); exact BK271.out) hkp (fun hs_ => Or.elim hs_ (fun e_ => (fun e_ => (Kd.R_ne HO_272000.out BK271.out (by decide)) e_) e_) (fun e_ => (fun e_ => (Kd.R_ne HO_272001.out BK271.out (by decide)) e_) e_))); have n10_ := Aside0.mk (hb); clear HO_257000; clear HO_257001; clear HO_264000; clear HO_264001; clear HO_272000; clear HO_272001; clear BK241; clear BK256; clear BK263; clear BK271; clear HB; have HO_257000 := n0_; have HO_257001 := n1_; have HO_264000 := n2_; have HO_264001 := n3_; have HO_272000 := n4_; have HO_272001 := n5_; have BK241 := n6_; have BK256 := n7_; have BK263 := n8_; have BK271 := n9_; have HB := n10_; clear n0_ n1_ n2_ n3_ n4_ n5_ n6_ n7_ n8_ n9_ n10_; (try clear hb); (try clear hkp); (try clear hy0); (try clear hy1); have hcz91_0 : w90.cell? ⟨gb271, 0, none⟩ = some (.slice Ao35 t264.length co35) := (blk_cell BK271.out 0).trans rfl; have hcz91_1 : w90.cell? ⟨gb271, 1, none⟩ = some (.slice Ao40 t267.length co40) := (blk_cell BK271.out 1).trans rfl; have hfz91_0 := blk_frozen BK271.out 0; have hfz91_1 := blk_frozen BK271.out 1) | ((with_reducible refine gate_callee (f := 21) rfl ?_); refine goesL_ (some 67) rfl rfl Try.func21 (by kernel_rfl) rfl #[.agg #[.slice Ao35 t285.length co35, .slice Ao40 t286.length co40], .int .i64 1] rfl (by (try simp only [List.map_toArray, List.map_cons, List.map_nil]); first | done | (rw [show t285.length = t264.length from (Kd.R_reads' HO_272000.out).1.symm, show t286.length = t267.length from (Kd.R_reads' HO_272001.out).1.symm] <;> rfl) | rfl | (simp only [List.length_drop, List.length_take]; rfl)) ?_; (with_reducible refine (laws_heldArray.calls kj55 _ _ t285 _ _ t286 1 t287 _ ?side1 ?side2 ?side3 ?side4 A80.out).mono ?_); (case side1 => repeat (first | exact (Kd.R_reads' HO_272000.out).2.2 | (with_reducible refine Kd.C_alloc ?_ _) | (with_reducible refine Kd.C_drewN ?_ _) | (with_reducible refine Kd.C_drew ?_))); (case side2 => rw [show t285.length = t264.length from (Kd.R_reads' HO_272000.out).1.symm]; exact (Kd.R_reads' HO_272000.out).2.1); (case side3 => repeat (first | exact (Kd.R_reads' HO_272001.out).2.2 | (with_reducible refine Kd.C_alloc ?_ _) | (with_reducible refine Kd.C_drewN ?_ _) | (with_reducible refine Kd.C_drew ?_))); (case side4 => rw [show t286.length = t267.length from (Kd.R_reads' HO_272001.out).1.symm]; exact (Kd.R_reads' HO_272001.out).2.1); rintro e w92 ⟨rfl, hb⟩; refine ⟨_, rfl, ?_⟩; have n0_ := Aside0.mk (Kd.R_below (by (with_reducible repeat (first | apply Kd.R_alloc | apply Kd.R_drewN | apply Kd.R_drew)); exact HO_257000.out) hb); have n1_ := Aside0.mk (Kd.R_below (by (with_reducible repeat (first | apply Kd.R_alloc | apply Kd.R_drewN | apply Kd.R_drew)); exact HO_257001.out) hb); have n2_ := Aside0.mk (Kd.R_below (by (with_reducible repeat (first | apply Kd.R_alloc | apply Kd.R_drewN | apply Kd.R_drew)); exact HO_264000.out) hb); have n3_ := Aside0.mk (Kd.R_below (by (with_reducible repeat (first | apply Kd.R_alloc | apply Kd.R_drewN | apply Kd.R_drew)); exact HO_264001.out) hb); have n4_ := Aside0.mk (Kd.R_below (by (with_reducible repeat (first | apply Kd.R_alloc | apply Kd.R_drewN | apply Kd.R_drew)); exact HO_272000.out) hb); have n5_ := Aside0.mk (Kd.R_below (by (with_reducible repeat (first | apply Kd.R_alloc | apply Kd.R_drewN | apply Kd.R_drew)); exact HO_272001.out) hb); have n6_ := Aside0.mk (blk_below (g := gb241) (o := .cells #[.slice A0_0 l0_0.length c0_0, .slice A0_1 l0_1.length c0_1] 24 (0, 0)) (by (with_reducible repeat (first | refine blk_drewN ?_ _ | refine blk_drew ?_ | refine blk_alloc ?_ _)); exact BK241.out) hb); have n7_ := Aside0.mk (blk_below (g := gb256) (o := .cells #[.slice Ao21 t249.length co21, .slice Ao24 t252.length co24] 26 (0, 0)) (by (with_reducible repeat (first | refine blk_drewN ?_ _ | refine blk_drew ?_ | refine blk_alloc ?_ _)); exact BK256.out) hb); have n8_ := Aside0.mk (blk_below (g := gb263) (o := .cells #[.slice Ao28 t281.length co28, .slice Ao32 t282.length co32] 26 (0, 0)) (by (with_reducible repeat (first | refine blk_drewN ?_ _ | refine blk_drew ?_ | refine blk_alloc ?_ _)); exact BK263.out) hb); have n9_ := Aside0.mk (blk_below (g := gb271) (o := .cells #[.slice Ao35 t264.length co35, .slice Ao40 t267.length co40] 26 (0, 0)) (by (with_reducible repeat (first | refine blk_drewN ?_ _ | refine blk_drew ?_ | refine blk_alloc ?_ _)); exact BK271.out) hb); have n10_ := Aside0.mk (below_step (by repeat (first | (with_reducible first | exact HB.out | apply below_alloc | apply pw_below_drewN | apply below_drew1 | refine below_set ?_ GE241.out | refine below_set ?_ GE256.out | refine below_set ?_ GE263.out | refine below_set ?_ GE271.out) | exact HB.out)) hb); clear HO_257000; clear HO_257001; clear HO_264000; clear HO_264001; clear HO_272000; clear HO_272001; clear BK241; clear BK256; clear BK263; clear BK271; clear HB; have HO_257000 := n0_; have HO_257001 := n1_; have HO_264000 := n2_; have HO_264001 := n3_; have HO_272000 := n4_; have HO_272001 := n5_; have BK241 := n6_; have BK256 := n7_; have BK263 := n8_; have BK271 := n9_; have HB := n10_; clear n0_ n1_ n2_ n3_ n4_ n5_ n6_ n7_ n8_ n9_ n10_; (try clear hb); (try clear hb2); (try clear hk); (try clear hi); have hnb93 := NB241_256.out; have hnc93 := NB256_241.out; have hnb94 := NB241_263.out; have hnc94 := NB263_241.out; have hcz95_0 : w92.cell? ⟨gb241, 0, none⟩ = some (.slice A0_0 l0_0.length c0_0) := (blk_cell BK241.out 0).trans rfl; have hcz95_1 : w92.cell? ⟨gb241, 1, none⟩ = some (.slice A0_1 l0_1.length c0_1) := (blk_cell BK241.out 1).trans rfl; have hfz95_0 := blk_frozen BK241.out 0; have hfz95_1 := blk_frozen BK241.out 1) | ((with_reducible refine gate_callee (f := 17) rfl ?_); refine goesL_ (some 75) rfl rfl Try.func17 (by kernel_rfl) rfl #[.agg #[.slice A0_0 l0_0.length c0_0, .slice A0_1 l0_1.length c0_1]] rfl (by (try simp only [List.map_toArray, List.map_cons, List.map_nil]); first | done | rfl | (simp only [List.length_drop, List.length_take]; rfl)) ?_; (with_reducible refine (laws_toArray.calls kj55 _ _ l0_0 _ _ l0_1 t288 t291 _ ?side1 ?side2 ?side3 ?side4 A83.out).mono ?_); (case side1 => repeat (first | exact (Kd.C_below HR0_0.out HB.out) | (with_reducible refine Kd.C_alloc ?_ _) | (with_reducible refine Kd.C_drewN ?_ _) | (with_reducible refine Kd.C_drew ?_))); (case side2 => exact HC0_0.out); (case side3 => repeat (first | exact (Kd.C_below HR0_1.out HB.out) | (with_reducible refine Kd.C_alloc ?_ _) | (with_reducible refine Kd.C_drewN ?_ _) | (with_reducible refine Kd.C_drew ?_))); (case side4 => exact HC0_1.out); rintro e w96 ⟨v289, v292, rfl, ho0, ho1, hb⟩; refine ⟨_, rfl, ?_⟩; have n0_ := Aside0.mk (Kd.R_mono (Kd.R_told (Kd.R_told (Kd.R_old (by (with_reducible repeat (first | apply Kd.R_alloc | apply Kd.R_drewN | apply Kd.R_drew)); exact HO_257000.out) hb) (Kd.R_base ho0)) (Kd.R_base ho1)) (fun _ h_ => h_.1)); have n1_ := Aside0.mk (Kd.R_mono (Kd.R_told (Kd.R_told (Kd.R_old (by (with_reducible repeat (first | apply Kd.R_alloc | apply Kd.R_drewN | apply Kd.R_drew)); exact HO_257001.out) hb) (Kd.R_base ho0)) (Kd.R_base ho1)) (fun _ h_ => h_.1)); have n2_ := Aside0.mk (Kd.R_mono (Kd.R_told (Kd.R_told (Kd.R_old (by (with_reducible repeat (first | apply Kd.R_alloc | apply Kd.R_drewN | apply Kd.R_drew)); exact HO_264000.out) hb) (Kd.R_base ho0)) (Kd.R_base ho1)) (fun _ h_ => h_.1)); have n3_ := Aside0.mk (Kd.R_mono (Kd.R_told (Kd.R_told (Kd.R_old (by (with_reducible repeat (first | apply Kd.R_alloc | apply Kd.R_drewN | apply Kd.R_drew)); exact HO_264001.out) hb) (Kd.R_base ho0)) (Kd.R_base ho1)) (fun _ h_ => h_.1)); have n4_ := Aside0.mk (Kd.R_mono (Kd.R_told (Kd.R_told (Kd.R_old (by (with_reducible repeat (first | apply Kd.R_alloc | apply Kd.R_drewN | apply Kd.R_drew)); exact HO_272000.out) hb) (Kd.R_base ho0)) (Kd.R_base ho1)) (fun _ h_ => h_.1)); have n5_ := Aside0.mk (Kd.R_mono (Kd.R_told (Kd.R_told (Kd.R_old (by (with_reducible repeat (first | apply Kd.R_alloc | apply Kd.R_drewN | apply Kd.R_drew)); exact HO_272001.out) hb) (Kd.R_base ho0)) (Kd.R_base ho1)) (fun _ h_ => h_.1)); have n6_ := Aside0.mk (Kd.R_lower (Kd.R_new' (Kd.R_new' (Kd.R_new' (Kd.R_new' (Kd.R_new' (Kd.R_new' ho0 (Kd.R_lt (by (with_reducible repeat (first | apply Kd.R_alloc | apply Kd.R_drewN | apply Kd.R_drew)); exact HO_257000.out))) (Kd.R_lt (by (with_reducible repeat (first | apply Kd.R_alloc | apply Kd.R_drewN | apply Kd.R_drew)); exact HO_257001.out))) (Kd.R_lt (by (with_reducible repeat (first | apply Kd.R_alloc | apply Kd.R_drewN | apply Kd.R_drew)); exact HO_264000.out))) (Kd.R_lt (by (with_reducible repeat (first | apply Kd.R_alloc | apply Kd.R_drewN | apply Kd.R_drew)); exact HO_264001.out))) (Kd.R_lt (by (with_reducible repeat (first | apply Kd.R_alloc | apply Kd.R_drewN | apply Kd.R_drew)); exact HO_272000.out))) (Kd.R_lt (by (with_reducible repeat (first | apply Kd.R_alloc | apply Kd.R_drewN | apply Kd.R_drew)); exact HO_272001.out))) (below_size (by repeat (first | (with_reducible first | exact HB.out | apply below_alloc | apply pw_below_drewN | apply below_drew1 | refine below_set ?_ GE241.out | refine below_set ?_ GE256.out | refine below_set ?_ GE263.out | refine below_set ?_ GE271.out) | exact HB.out)))); have n7_ := Aside0.mk (Kd.R_lower (Kd.R_new' (Kd.R_new' (Kd.R_new' (Kd.R_new' (Kd.R_new' (Kd.R_new' ho1 (Kd.R_lt (by (with_reducible repeat (first | apply Kd.R_alloc | apply Kd.R_drewN | apply Kd.R_drew)); exact HO_257000.out))) (Kd.R_lt (by (with_reducible repeat (first | apply Kd.R_alloc | apply Kd.R_drewN | apply Kd.R_drew)); exact HO_257001.out))) (Kd.R_lt (by (with_reducible repeat (first | apply Kd.R_alloc | apply Kd.R_drewN | apply Kd.R_drew)); exact HO_264000.out))) (Kd.R_lt (by (with_reducible repeat (first | apply Kd.R_alloc | apply Kd.R_drewN | apply Kd.R_drew)); exact HO_264001.out))) (Kd.R_lt (by (with_reducible repeat (first | apply Kd.R_alloc | apply Kd.R_drewN | apply Kd.R_drew)); exact HO_272000.out))) (Kd.R_lt (by (with_reducible repeat (first | apply Kd.R_alloc | apply Kd.R_drewN | apply Kd.R_drew)); exact HO_272001.out))) (below_size (by repeat (first | (with_reducible first | exact HB.out | apply below_alloc | apply pw_below_drewN | apply below_drew1 | refine below_set ?_ GE241.out | refine below_set ?_ GE256.out | refine below_set ?_ GE263.out | refine below_set ?_ GE271.out) | exact HB.out)))); have n8_ := Aside0.mk (blk_below (g := gb241) (o := .cells #[.slice A0_0 l0_0.length c0_0, .slice A0_1 l0_1.length c0_1] 24 (0, 0)) (by (with_reducible repeat (first | refine blk_drewN ?_ _ | refine blk_drew ?_ | refine blk_alloc ?_ _)); exact BK241.out) hb); have n9_ := Aside0.mk (blk_below (g := gb256) (o := .cells #[.slice Ao21 t249.length co21, .slice Ao24 t252.length co24] 26 (0, 0)) (by (with_reducible repeat (first | refine blk_drewN ?_ _ | refine blk_drew ?_ | refine blk_alloc ?_ _)); exact BK256.out) hb); have n10_ := Aside0.mk (blk_below (g := gb263) (o := .cells #[.slice Ao28 t281.length co28, .slice Ao32 t282.length co32] 26 (0, 0)) (by (with_reducible repeat (first | refine blk_drewN ?_ _ | refine blk_drew ?_ | refine blk_alloc ?_ _)); exact BK263.out) hb); have n11_ := Aside0.mk (blk_below (g := gb271) (o := .cells #[.slice Ao35 t264.length co35, .slice Ao40 t267.length co40] 26 (0, 0)) (by (with_reducible repeat (first | refine blk_drewN ?_ _ | refine blk_drew ?_ | refine blk_alloc ?_ _)); exact BK271.out) hb); have n12_ := Aside0.mk (below_step (by repeat (first | (with_reducible first | exact HB.out | apply below_alloc | apply pw_below_drewN | apply below_drew1 | refine below_set ?_ GE241.out | refine below_set ?_ GE256.out | refine below_set ?_ GE263.out | refine below_set ?_ GE271.out) | exact HB.out)) hb); clear HO_257000; clear HO_257001; clear HO_264000; clear HO_264001; clear HO_272000; clear HO_272001; clear BK241; clear BK256; clear BK263; clear BK271; clear HB; have HO_257000 := n0_; have HO_257001 := n1_; have HO_264000 := n2_; have HO_264001 := n3_; have HO_272000 := n4_; have HO_272001 := n5_; have HO290 := n6_; have HO293 := n7_; have BK241 := n8_; have BK256 := n9_; have BK263 := n10_; have BK271 := n11_; have HB := n12_; clear n0_ n1_ n2_ n3_ n4_ n5_ n6_ n7_ n8_ n9_ n10_ n11_ n12_; (try clear hb); (try clear hb2); (try clear hk); (try clear hi); (try clear ho0); (try clear ho1); obtain ⟨Ao97, co97, eo97⟩ := Kd.R_slice HO290.out; subst eo97; obtain ⟨Ao98, co98, eo98⟩ := Kd.R_slice HO293.out; subst eo98) | ((with_reducible refine gate_callee (f := 42) rfl ?_); refine goesL_ (some 76) rfl rfl Try.func42 (by kernel_rfl) rfl #[.agg #[.slice Ao97 t288.length co97, .slice Ao98 t291.length co98]] rfl (by (try simp only [List.map_toArray, List.map_cons, List.map_nil]); first | done | rfl | (simp only [List.length_drop, List.length_take]; rfl)) ?_; (with_reducible refine (impl_Flip.calls kj55 _ _ t288 _ _ t291 t294 t297 t300 _ ?side1 ?side2 ?side3 ?side4 A84.out).mono ?_); (case side1 => repeat (first | exact (Kd.R_reads' HO290.out).2.2 | (with_reducible refine Kd.C_alloc ?_ _) | (with_reducible refine Kd.C_drewN ?_ _) | (with_reducible refine Kd.C_drew ?_))); (case side2 => exact (Kd.R_reads' HO290.out).2.1); (case side3 => repeat (first | exact (Kd.R_reads' HO293.out).2.2 | (with_reducible refine Kd.C_alloc ?_ _) | (with_reducible refine Kd.C_drewN ?_ _) | (with_reducible refine Kd.C_drew ?_))); (case side4 => exact (Kd.R_reads' HO293.out).2.1); rintro e w99 ⟨v295, v298, rfl, ho0, ho1, hb⟩; refine ⟨_, rfl, ?_⟩; have n0_ := Aside0.mk (Kd.R_mono (Kd.R_told (Kd.R_told (Kd.R_old (by (with_reducible repeat (first | apply Kd.R_alloc | apply Kd.R_drewN | apply Kd.R_drew)); exact HO_257000.out) hb) (Kd.R_base ho0)) (Kd.R_base ho1)) (fun _ h_ => h_.1)); have n1_ := Aside0.mk (Kd.R_mono (Kd.R_told (Kd.R_told (Kd.R_old (by (with_reducible repeat (first | apply Kd.R_alloc | apply Kd.R_drewN | apply Kd.R_drew)); exact HO_257001.out) hb) (Kd.R_base ho0)) (Kd.R_base ho1)) (fun _ h_ => h_.1)); have n2_ := Aside0.mk (Kd.R_mono (Kd.R_told (Kd.R_told (Kd.R_old (by (with_reducible repeat (first | apply Kd.R_alloc | apply Kd.R_drewN | apply Kd.R_drew)); exact HO_264000.out) hb) (Kd.R_base ho0)) (Kd.R_base ho1)) (fun _ h_ => h_.1)); have n3_ := Aside0.mk (Kd.R_mono (Kd.R_told (Kd.R_told (Kd.R_old (by (with_reducible repeat (first | apply Kd.R_alloc | apply Kd.R_drewN | apply Kd.R_drew)); exact HO_264001.out) hb) (Kd.R_base ho0)) (Kd.R_base ho1)) (fun _ h_ => h_.1)); have n4_ := Aside0.mk (Kd.R_mono (Kd.R_told (Kd.R_told (Kd.R_old (by (with_reducible repeat (first | apply Kd.R_alloc | apply Kd.R_drewN | apply Kd.R_drew)); exact HO_272000.out) hb) (Kd.R_base ho0)) (Kd.R_base ho1)) (fun _ h_ => h_.1)); have n5_ := Aside0.mk (Kd.R_mono (Kd.R_told (Kd.R_told (Kd.R_old (by (with_reducible repeat (first | apply Kd.R_alloc | apply Kd.R_drewN | apply Kd.R_drew)); exact HO_272001.out) hb) (Kd.R_base ho0)) (Kd.R_base ho1)) (fun _ h_ => h_.1)); have n6_ := Aside0.mk (Kd.R_mono (Kd.R_told (Kd.R_told (Kd.R_old (by (with_reducible repeat (first | apply Kd.R_alloc | apply Kd.R_drewN | apply Kd.R_drew)); exact HO290.out) hb) (Kd.R_base ho0)) (Kd.R_base ho1)) (fun _ h_ => h_.1)); have n7_ := Aside0.mk (Kd.R_mono (Kd.R_told (Kd.R_told (Kd.R_old (by (with_reducible repeat (first | apply Kd.R_alloc | apply Kd.R_drewN | apply Kd.R_drew)); exact HO293.out) hb) (Kd.R_base ho0)) (Kd.R_base ho1)) (fun _ h_ => h_.1)); have n8_ := Aside0.mk (Kd.R_lower (Kd.R_new' (Kd.R_new' (Kd.R_new' (Kd.R_new' (Kd.R_new' (Kd.R_new' (Kd.R_new' (Kd.R_new' ho0 (Kd.R_lt (by (with_reducible repeat (first | apply Kd.R_alloc | apply Kd.R_drewN | apply Kd.R_drew)); exact HO_257000.out))) (Kd.R_lt (by (with_reducible repeat (first | apply Kd.R_alloc | apply Kd.R_drewN | apply Kd.R_drew)); exact HO_257001.out))) (Kd.R_lt (by (with_reducible repeat (first | apply Kd.R_alloc | apply Kd.R_drewN | apply Kd.R_drew)); exact HO_264000.out))) (Kd.R_lt (by (with_reducible repeat (first | apply Kd.R_alloc | apply Kd.R_drewN | apply Kd.R_drew)); exact HO_264001.out))) (Kd.R_lt (by (with_reducible repeat (first | apply Kd.R_alloc | apply Kd.R_drewN | apply Kd.R_drew)); exact HO_272000.out))) (Kd.R_lt (by (with_reducible repeat (first | apply Kd.R_alloc | apply Kd.R_drewN | apply Kd.R_drew)); exact HO_272001.out))) (Kd.R_lt (by (with_reducible repeat (first | apply Kd.R_alloc | apply Kd.R_drewN | apply Kd.R_drew)); exact HO290.out))) (Kd.R_lt (by (with_reducible repeat (first | apply Kd.R_alloc | apply Kd.R_drewN | apply Kd.R_drew)); exact HO293.out))) (below_size (by repeat (first | (with_reducible first | exact HB.out | apply below_alloc | apply pw_below_drewN | apply below_drew1 | refine below_set ?_ GE241.out | refine below_set ?_ GE256.out | refine below_set ?_ GE263.out | refine below_set ?_ GE271.out) | exact HB.out)))); have n9_ := Aside0.mk (Kd.R_lower (Kd.R_new' (Kd.R_new' (Kd.R_new' (Kd.R_new' (Kd.R_new' (Kd.R_new' (Kd.R_new' (Kd.R_new' ho1 (Kd.R_lt (by (with_reducible repeat (first | apply Kd.R_alloc | apply Kd.R_drewN | apply Kd.R_drew)); exact HO_257000.out))) (Kd.R_lt (by (with_reducible repeat (first | apply Kd.R_alloc | apply Kd.R_drewN | apply Kd.R_drew)); exact HO_257001.out))) (Kd.R_lt (by (with_reducible repeat (first | apply Kd.R_alloc | apply Kd.R_drewN | apply Kd.R_drew)); exact HO_264000.out))) (Kd.R_lt (by (with_reducible repeat (first | apply Kd.R_alloc | apply Kd.R_drewN | apply Kd.R_drew)); exact HO_264001.out))) (Kd.R_lt (by (with_reducible repeat (first | apply Kd.R_alloc | apply Kd.R_drewN | apply Kd.R_drew)); exact HO_272000.out))) (Kd.R_lt (by (with_reducible repeat (first | apply Kd.R_alloc | apply Kd.R_drewN | apply Kd.R_drew)); exact HO_272001.out))) (Kd.R_lt (by (with_reducible repeat (first | apply Kd.R_alloc | apply Kd.R_drewN | apply Kd.R_drew)); exact HO290.out))) (Kd.R_lt (by (with_reducible repeat (first | apply Kd.R_alloc | apply Kd.R_drewN | apply Kd.R_drew)); exact HO293.out))) (below_size (by repeat (first | (with_reducible first | exact HB.out | apply below_alloc | apply pw_below_drewN | apply below_drew1 | refine below_set ?_ GE241.out | refine below_set ?_ GE256.out | refine below_set ?_ GE263.out | refine below_set ?_ GE271.out) | exact HB.out)))); have n10_ := Aside0.mk (blk_below (g := gb241) (o := .cells #[.slice A0_0 l0_0.length c0_0, .slice A0_1 l0_1.length c0_1] 24 (0, 0)) (by (with_reducible repeat (first | refine blk_drewN ?_ _ | refine blk_drew ?_ | refine blk_alloc ?_ _)); exact BK241.out) hb); have n11_ := Aside0.mk (blk_below (g := gb256) (o := .cells #[.slice Ao21 t249.length co21, .slice Ao24 t252.length co24] 26 (0, 0)) (by (with_reducible repeat (first | refine blk_drewN ?_ _ | refine blk_drew ?_ | refine blk_alloc ?_ _)); exact BK256.out) hb); have n12_ := Aside0.mk (blk_below (g := gb263) (o := .cells #[.slice Ao28 t281.length co28, .slice Ao32 t282.length co32] 26 (0, 0)) (by (with_reducible repeat (first | refine blk_drewN ?_ _ | refine blk_drew ?_ | refine blk_alloc ?_ _)); exact BK263.out) hb); have n13_ := Aside0.mk (blk_below (g := gb271) (o := .cells #[.slice Ao35 t264.length co35, .slice Ao40 t267.length co40] 26 (0, 0)) (by (with_reducible repeat (first | refine blk_drewN ?_ _ | refine blk_drew ?_ | refine blk_alloc ?_ _)); exact BK271.out) hb); have n14_ := Aside0.mk (below_step (by repeat (first | (with_reducible first | exact HB.out | apply below_alloc | apply pw_below_drewN | apply below_drew1 | refine below_set ?_ GE241.out | refine below_set ?_ GE256.out | refine below_set ?_ GE263.out | refine below_set ?_ GE271.out) | exact HB.out)) hb); clear HO_257000; clear HO_257001; clear HO_264000; clear HO_264001; clear HO_272000; clear HO_272001; clear HO290; clear HO293; clear BK241; clear BK256; clear BK263; clear BK271; clear HB; have HO_257000 := n0_; have HO_257001 := n1_; have HO_264000 := n2_; have HO_264001 := n3_; have HO_272000 := n4_; have HO_272001 := n5_; have HO290 := n6_; have HO293 := n7_; have HO296 := n8_; have HO299 := n9_; have BK241 := n10_; have BK256 := n11_; have BK263 := n12_; have BK271 := n13_; have HB := n14_; clear n0_ n1_ n2_ n3_ n4_ n5_ n6_ n7_ n8_ n9_ n10_ n11_ n12_ n13_ n14_; (try clear hb); (try clear hb2); (try clear hk); (try clear hi); (try clear ho0); (try clear ho1)) | ((with_reducible refine gate_dst (N := 12) rfl ?_); refine box_event ?hg (N := 12) ?hd (cs := #[.slice none 0 0, .slice none 0 0]) (t := 26) ?hr ?_; (case hd => rfl); (case hg => rfl); (case hr => first | (go_simp; done) | (go_simp; rfl)); intro gb301 hg w100 hbox hb; have n0_ := Aside0.mk (Kd.R_below (by (with_reducible repeat (first | apply Kd.R_alloc | apply Kd.R_drewN | apply Kd.R_drew)); exact HO_257000.out) hb); have n1_ := Aside0.mk (Kd.R_below (by (with_reducible repeat (first | apply Kd.R_alloc | apply Kd.R_drewN | apply Kd.R_drew)); exact HO_257001.out) hb); have n2_ := Aside0.mk (Kd.R_below (by (with_reducible repeat (first | apply Kd.R_alloc | apply Kd.R_drewN | apply Kd.R_drew)); exact HO_264000.out) hb); have n3_ := Aside0.mk (Kd.R_below (by (with_reducible repeat (first | apply Kd.R_alloc | apply Kd.R_drewN | apply Kd.R_drew)); exact HO_264001.out) hb); have n4_ := Aside0.mk (Kd.R_below (by (with_reducible repeat (first | apply Kd.R_alloc | apply Kd.R_drewN | apply Kd.R_drew)); exact HO_272000.out) hb); have n5_ := Aside0.mk (Kd.R_below (by (with_reducible repeat (first | apply Kd.R_alloc | apply Kd.R_drewN | apply Kd.R_drew)); exact HO_272001.out) hb); have n6_ := Aside0.mk (Kd.R_below (by (with_reducible repeat (first | apply Kd.R_alloc | apply Kd.R_drewN | apply Kd.R_drew)); exact HO290.out) hb); have n7_ := Aside0.mk (Kd.R_below (by (with_reducible repeat (first | apply Kd.R_alloc | apply Kd.R_drewN | apply Kd.R_drew)); exact HO293.out) hb); have n8_ := Aside0.mk (Kd.R_below (by (with_reducible repeat (first | apply Kd.R_alloc | apply Kd.R_drewN | apply Kd.R_drew)); exact HO296.out) hb); have n9_ := Aside0.mk (Kd.R_below (by (with_reducible repeat (first | apply Kd.R_alloc | apply Kd.R_drewN | apply Kd.R_drew)); exact HO299.out) hb); have n10_ := Aside0.mk (blk_below (g := gb241) (o := .cells #[.slice A0_0 l0_0.length c0_0, .slice A0_1 l0_1.length c0_1] 24 (0, 0)) (by (with_reducible repeat (first | refine blk_drewN ?_ _ | refine blk_drew ?_ | refine blk_alloc ?_ _)); exact BK241.out) hb); have n11_ := Aside0.mk (blk_below (g := gb256) (o := .cells #[.slice Ao21 t249.length co21, .slice Ao24 t252.length co24] 26 (0, 0)) (by (with_reducible repeat (first | refine blk_drewN ?_ _ | refine blk_drew ?_ | refine blk_alloc ?_ _)); exact BK256.out) hb); have n12_ := Aside0.mk (blk_below (g := gb263) (o := .cells #[.slice Ao28 t281.length co28, .slice Ao32 t282.length co32] 26 (0, 0)) (by (with_reducible repeat (first | refine blk_drewN ?_ _ | refine blk_drew ?_ | refine blk_alloc ?_ _)); exact BK263.out) hb); have n13_ := Aside0.mk (blk_below (g := gb271) (o := .cells #[.slice Ao35 t264.length co35, .slice Ao40 t267.length co40] 26 (0, 0)) (by (with_reducible repeat (first | refine blk_drewN ?_ _ | refine blk_drew ?_ | refine blk_alloc ?_ _)); exact BK271.out) hb); have n14_ := Aside0.mk (below_step (by repeat (first | (with_reducible first | exact HB.out | apply below_alloc | apply pw_below_drewN | apply below_drew1 | refine below_set ?_ GE241.out | refine below_set ?_ GE256.out | refine below_set ?_ GE263.out | refine below_set ?_ GE271.out) | exact HB.out)) hb); have n15_ := Aside0.mk (hbox); have n16_ := Aside0.mk ((by rw [hg]; exact (below_size (by repeat (first | (with_reducible first | exact HB.out | apply below_alloc | apply pw_below_drewN | apply below_drew1 | refine below_set ?_ GE241.out | refine below_set ?_ GE256.out | refine below_set ?_ GE263.out | refine below_set ?_ GE271.out) | exact HB.out))) : w.heap.size ≤ gb301)); have n17_ := Aside0.mk ((by rw [hg]; exact (below_size (by repeat (first | (with_reducible first | exact HB.out | apply below_alloc | apply pw_below_drewN | apply below_drew1 | refine below_set ?_ GE241.out | refine below_set ?_ GE256.out | refine below_set ?_ GE263.out | refine below_set ?_ GE271.out) | exact HB.out))) : w.heap.size ≤ gb301)); have n18_ := Aside0.mk ((by rw [hg]; exact Nat.ne_of_lt (blk_lt (g := gb241) (o := .cells #[.slice A0_0 l0_0.length c0_0, .slice A0_1 l0_1.length c0_1] 24 (0, 0)) (by (with_reducible repeat (first | refine blk_drewN ?_ _ | refine blk_drew ?_ | refine blk_alloc ?_ _)); exact BK241.out)) : gb241 ≠ gb301)); have n19_ := Aside0.mk ((by rw [hg]; exact Nat.ne_of_gt (blk_lt (g := gb241) (o := .cells #[.slice A0_0 l0_0.length c0_0, .slice A0_1 l0_1.length c0_1] 24 (0, 0)) (by (with_reducible repeat (first | refine blk_drewN ?_ _ | refine blk_drew ?_ | refine blk_alloc ?_ _)); exact BK241.out)) : gb301 ≠ gb241)); have n20_ := Aside0.mk ((by rw [hg]; exact Nat.ne_of_lt (blk_lt (g := gb256) (o := .cells #[.slice Ao21 t249.length co21, .slice Ao24 t252.length co24] 26 (0, 0)) (by (with_reducible repeat (first | refine blk_drewN ?_ _ | refine blk_drew ?_ | refine blk_alloc ?_ _)); exact BK256.out)) : gb256 ≠ gb301)); have n21_ := Aside0.mk ((by rw [hg]; exact Nat.ne_of_gt (blk_lt (g := gb256) (o := .cells #[.slice Ao21 t249.length co21, .slice Ao24 t252.length co24] 26 (0, 0)) (by (with_reducible repeat (first | refine blk_drewN ?_ _ | refine blk_drew ?_ | refine blk_alloc ?_ _)); exact BK256.out)) : gb301 ≠ gb256)); have n22_ := Aside0.mk ((by rw [hg]; exact Nat.ne_of_lt (blk_lt (g := gb263) (o := .cells #[.slice Ao28 t281.length co28, .slice Ao32 t282.length co32] 26 (0, 0)) (by (with_reducible repeat (first | refine blk_drewN ?_ _ | refine blk_drew ?_ | refine blk_alloc ?_ _)); exact BK263.out)) : gb263 ≠ gb301)); have n23_ := Aside0.mk ((by rw [hg]; exact Nat.ne_of_gt (blk_lt (g := gb263) (o := .cells #[.slice Ao28 t281.length co28, .slice Ao32 t282.length co32] 26 (0, 0)) (by (with_reducible repeat (first | refine blk_drewN ?_ _ | refine blk_drew ?_ | refine blk_alloc ?_ _)); exact BK263.out)) : gb301 ≠ gb263)); have n24_ := Aside0.mk ((by rw [hg]; exact Nat.ne_of_lt (blk_lt (g := gb271) (o := .cells #[.slice Ao35 t264.length co35, .slice Ao40 t267.length co40] 26 (0, 0)) (by (with_reducible repeat (first | refine blk_drewN ?_ _ | refine blk_drew ?_ | refine blk_alloc ?_ _)); exact BK271.out)) : gb271 ≠ gb301)); have n25_ := Aside0.mk ((by rw [hg]; exact Nat.ne_of_gt (blk_lt (g := gb271) (o := .cells #[.slice Ao35 t264.length co35, .slice Ao40 t267.length co40] 26 (0, 0)) (by (with_reducible repeat (first | refine blk_drewN ?_ _ | refine blk_drew ?_ | refine blk_alloc ?_ _)); exact BK271.out)) : gb301 ≠ gb271)); clear HO_257000; clear HO_257001; clear HO_264000; clear HO_264001; clear HO_272000; clear HO_272001; clear HO290; clear HO293; clear HO296; clear HO299; clear BK241; clear BK256; clear BK263; clear BK271; clear HB; have HO_257000 := n0_; have HO_257001 := n1_; have HO_264000 := n2_; have HO_264001 := n3_; have HO_272000 := n4_; have HO_272001 := n5_; have HO290 := n6_; have HO293 := n7_; have HO296 := n8_; have HO299 := n9_; have BK241 := n10_; have BK256 := n11_; have BK263 := n12_; have BK271 := n13_; have HB := n14_; have BK301 := n15_; have GW301 := n16_; have GE301 := n17_; have NB241_301 := n18_; have NB301_241 := n19_; have NB256_301 := n20_; have NB301_256 := n21_; have NB263_301 := n22_; have NB301_263 := n23_; have NB271_301 := n24_; have NB301_271 := n25_; clear n0_ n1_ n2_ n3_ n4_ n5_ n6_ n7_ n8_ n9_ n10_ n11_ n12_ n13_ n14_ n15_ n16_ n17_ n18_ n19_ n20_ n21_ n22_ n23_ n24_ n25_; clear hb hbox hg; obtain ⟨Ao101, co101, eo101⟩ := Kd.R_slice HO296.out; subst eo101; have hnb102 := NB301_241.out; have hnc102 := NB241_301.out; have hnb103 := NB301_256.out; have hnc103 := NB256_301.out; have hnb104 := NB301_263.out; have hnc104 := NB263_301.out; have hnb105 := NB301_271.out; have hnc105 := NB271_301.out; have hcz106_0 : w100.cell? ⟨gb301, 0, none⟩ = some (.slice none 0 0) := (blk_cell BK301.out 0).trans rfl; have hcz106_1 : w100.cell? ⟨gb301, 1, none⟩ = some (.slice none 0 0) := (blk_cell BK301.out 1).trans rfl; have hfz106_0 := blk_frozen BK301.out 0; have hfz106_1 := blk_frozen BK301.out 1; obtain ⟨Ao107, co107, eo107⟩ := Kd.R_slice HO299.out; subst eo107))
                      (try simp only [Act.put, List.setIfInBounds_toArray, List.set_cons_zero, List.set_cons_succ])
                      go_cut [87] (fun v87 wc => ∃ (kq : Nat) (x87_84 : Bool), v87 = .bool x87_84 ∧ Aside0 (laws_FnExactFlip.j2 kq t284 x87_84 t285 t286 = some r) ∧ Aside0 (kq ≤ kj55) ∧ Aside0 (Kd.R (Kd.int .i64) 3 wc w.heap.size (fun k_ => some k_ ≠ ((.slice Ao24 t252.length co24) : Value).ownBlock ∧ some k_ ≠ ((.slice Ao28 t281.length co28) : Value).ownBlock ∧ some k_ ≠ ((.slice Ao32 t282.length co32) : Value).ownBlock ∧ some k_ ≠ ((.slice Ao35 t264.length co35) : Value).ownBlock ∧ some k_ ≠ ((.slice Ao40 t267.length co40) : Value).ownBlock ∧ some k_ ≠ ((.slice Ao101 t294.length co101) : Value).ownBlock ∧ some k_ ≠ ((.slice Ao107 t297.length co107) : Value).ownBlock) (.slice Ao21 t249.length co21) t249) ∧ Aside0 (Kd.R (Kd.int .i64) 3 wc w.heap.size (fun k_ => some k_ ≠ ((.slice Ao21 t249.length co21) : Value).ownBlock ∧ some k_ ≠ ((.slice Ao28 t281.length co28) : Value).ownBlock ∧ some k_ ≠ ((.slice Ao32 t282.length co32) : Value).ownBlock ∧ some k_ ≠ ((.slice Ao35 t264.length co35) : Value).ownBlock ∧ some k_ ≠ ((.slice Ao40 t267.length co40) : Value).ownBlock ∧ some k_ ≠ ((.slice Ao101 t294.length co101) : Value).ownBlock ∧ some k_ ≠ ((.slice Ao107 t297.length co107) : Value).ownBlock) (.slice Ao24 t252.length co24) t252) ∧ Aside0 (Kd.R (Kd.int .i64) 3 wc w.heap.size (fun k_ => some k_ ≠ ((.slice Ao21 t249.length co21) : Value).ownBlock ∧ some k_ ≠ ((.slice Ao24 t252.length co24) : Value).ownBlock ∧ some k_ ≠ ((.slice Ao32 t282.length co32) : Value).ownBlock ∧ some k_ ≠ ((.slice Ao35 t264.length co35) : Value).ownBlock ∧ some k_ ≠ ((.slice Ao40 t267.length co40) : Value).ownBlock ∧ some k_ ≠ ((.slice Ao101 t294.length co101) : Value).ownBlock ∧ some k_ ≠ ((.slice Ao107 t297.length co107) : Value).ownBlock) (.slice Ao28 t281.length co28) t281) ∧ Aside0 (Kd.R (Kd.int .i64) 3 wc w.heap.size (fun k_ => some k_ ≠ ((.slice Ao21 t249.length co21) : Value).ownBlock ∧ some k_ ≠ ((.slice Ao24 t252.length co24) : Value).ownBlock ∧ some k_ ≠ ((.slice Ao28 t281.length co28) : Value).ownBlock ∧ some k_ ≠ ((.slice Ao35 t264.length co35) : Value).ownBlock ∧ some k_ ≠ ((.slice Ao40 t267.length co40) : Value).ownBlock ∧ some k_ ≠ ((.slice Ao101 t294.length co101) : Value).ownBlock ∧ some k_ ≠ ((.slice Ao107 t297.length co107) : Value).ownBlock) (.slice Ao32 t282.length co32) t282) ∧ Aside0 (Kd.R (Kd.int .i64) 3 wc w.heap.size (fun k_ => some k_ ≠ ((.slice Ao21 t249.length co21) : Value).ownBlock ∧ some k_ ≠ ((.slice Ao24 t252.length co24) : Value).ownBlock ∧ some k_ ≠ ((.slice Ao28 t281.length co28) : Value).ownBlock ∧ some k_ ≠ ((.slice Ao32 t282.length co32) : Value).ownBlock ∧ some k_ ≠ ((.slice Ao40 t267.length co40) : Value).ownBlock ∧ some k_ ≠ ((.slice Ao101 t294.length co101) : Value).ownBlock ∧ some k_ ≠ ((.slice Ao107 t297.length co107) : Value).ownBlock) (.slice Ao35 t264.length co35) t285) ∧ Aside0 (Kd.R (Kd.int .i64) 3 wc w.heap.size (fun k_ => some k_ ≠ ((.slice Ao21 t249.length co21) : Value).ownBlock ∧ some k_ ≠ ((.slice Ao24 t252.length co24) : Value).ownBlock ∧ some k_ ≠ ((.slice Ao28 t281.length co28) : Value).ownBlock ∧ some k_ ≠ ((.slice Ao32 t282.length co32) : Value).ownBlock ∧ some k_ ≠ ((.slice Ao35 t264.length co35) : Value).ownBlock ∧ some k_ ≠ ((.slice Ao101 t294.length co101) : Value).ownBlock ∧ some k_ ≠ ((.slice Ao107 t297.length co107) : Value).ownBlock) (.slice Ao40 t267.length co40) t286) ∧ Aside0 (Kd.R (Kd.int .i64) 3 wc w.heap.size (fun k_ => some k_ ≠ ((.slice Ao21 t249.length co21) : Value).ownBlock ∧ some k_ ≠ ((.slice Ao24 t252.length co24) : Value).ownBlock ∧ some k_ ≠ ((.slice Ao28 t281.length co28) : Value).ownBlock ∧ some k_ ≠ ((.slice Ao32 t282.length co32) : Value).ownBlock ∧ some k_ ≠ ((.slice Ao35 t264.length co35) : Value).ownBlock ∧ some k_ ≠ ((.slice Ao40 t267.length co40) : Value).ownBlock ∧ some k_ ≠ ((.slice Ao107 t297.length co107) : Value).ownBlock) (.slice Ao101 t294.length co101) t294) ∧ Aside0 (Kd.R (Kd.int .i64) 3 wc w.heap.size (fun k_ => some k_ ≠ ((.slice Ao21 t249.length co21) : Value).ownBlock ∧ some k_ ≠ ((.slice Ao24 t252.length co24) : Value).ownBlock ∧ some k_ ≠ ((.slice Ao28 t281.length co28) : Value).ownBlock ∧ some k_ ≠ ((.slice Ao32 t282.length co32) : Value).ownBlock ∧ some k_ ≠ ((.slice Ao35 t264.length co35) : Value).ownBlock ∧ some k_ ≠ ((.slice Ao40 t267.length co40) : Value).ownBlock ∧ some k_ ≠ ((.slice Ao101 t294.length co101) : Value).ownBlock) (.slice Ao107 t297.length co107) t297) ∧ Aside0 (wc.heap[gb241]? = some (.cells #[(.slice A0_0 l0_0.length c0_0), (.slice A0_1 l0_1.length c0_1)] 24 (0, 0))) ∧ Aside0 (wc.heap[gb256]? = some (.cells #[(.slice Ao21 t249.length co21), (.slice Ao24 t252.length co24)] 26 (0, 0))) ∧ Aside0 (wc.heap[gb263]? = some (.cells #[(.slice Ao28 t281.length co28), (.slice Ao32 t282.length co32)] 26 (0, 0))) ∧ Aside0 (wc.heap[gb271]? = some (.cells #[(.slice Ao35 t264.length co35), (.slice Ao40 t267.length co40)] 26 (0, 0))) ∧ Aside0 (wc.heap[gb301]? = some (.cells #[(.slice Ao101 t294.length co101), (.slice Ao107 t297.length co107)] 26 (0, 0))) ∧ Aside0 (Below w.heap.size w wc))
                      case first =>
                        have H := HC85.out
                        clear HC85
                        replace H := Option.bind_eq_some_iff.mp H
                        obtain ⟨t302, A1080, H⟩ := H
                        replace H : (if t302 = true then (laws_FnExactFlip.j2 kj55 t284 (t300 != t255) t285 t286) else (laws_FnExactFlip.j2 kj55 t284 true t285 t286)) = some r := H
                        have A108 := Aside0.mk A1080
                        clear A1080
                        by_cases c109 : t302 = true
                        · subst c109
                          have H1 : (laws_FnExactFlip.j2 kj55 t284 (t300 != t255) t285 t286) = some r := by rw [if_pos rfl] at H; exact H
                          clear H
                          have H := H1
                          clear H1
                          have H' := Aside0.mk H
                          clear H
                          have hnb110 := NB301_241.out
                          have hnc110 := NB241_301.out
                          have hnb111 := NB301_256.out
                          have hnc111 := NB256_301.out
                          have hnb112 := NB301_263.out
                          have hnc112 := NB263_301.out
                          have hnb113 := NB301_271.out
                          have hnc113 := NB271_301.out
                          have hcz114_0 : w100.cell? ⟨gb301, 0, none⟩ = some (.slice none 0 0) := (blk_cell BK301.out 0).trans rfl
                          have hcz114_1 : w100.cell? ⟨gb301, 1, none⟩ = some (.slice none 0 0) := (blk_cell BK301.out 1).trans rfl
                          have hfz114_0 := blk_frozen BK301.out 0
                          have hfz114_1 := blk_frozen BK301.out 1
                          have hnb115 := NB256_241.out
                          have hnc115 := NB241_256.out
                          have hnb116 := NB256_263.out
                          have hnc116 := NB263_256.out
                          have hnb117 := NB256_271.out
                          have hnc117 := NB271_256.out
                          have hcz118_0 : w100.cell? ⟨gb256, 0, none⟩ = some (.slice Ao21 t249.length co21) := (blk_cell BK256.out 0).trans rfl
                          have hcz118_1 : w100.cell? ⟨gb256, 1, none⟩ = some (.slice Ao24 t252.length co24) := (blk_cell BK256.out 1).trans rfl
                          have hfz118_0 := blk_frozen BK256.out 0
                          have hfz118_1 := blk_frozen BK256.out 1
                          go_wp2_with (first | ((with_reducible refine gate_callee (f := 19) rfl ?_); refine goesL_ (some 81) rfl rfl Try.func19 (by kernel_rfl) rfl #[.agg #[.slice Ao101 t294.length co101, .slice Ao107 t297.length co107], .agg #[.slice Ao21 t249.length co21, .slice Ao24 t252.length co24]] rfl (by (try simp only [List.map_toArray, List.map_cons, List.map_nil]); first | done | rfl | (simp only [List.length_drop, List.length_take]; rfl)) ?_; (with_reducible refine (laws_eqArray.calls kj55 _ _ t294 _ _ t297 _ _ t249 _ _ t252 true _ ?side1 ?side2 ?side3 ?side4 ?side5 ?side6 ?side7 ?side8 A108.out).mono ?_); (case side1 => refine (Kd.R_reads' (e := 3) (base := w.heap.size) (ok := fun k_ => ((((((((some k_ ≠ (.slice Ao107 t297.length co107 : Value).ownBlock ∧ some k_ ≠ (.slice Ao21 t249.length co21 : Value).ownBlock) ∧ some k_ ≠ (.slice Ao24 t252.length co24 : Value).ownBlock) ∧ some k_ ≠ (.slice Ao28 t281.length co28 : Value).ownBlock) ∧ some k_ ≠ (.slice Ao32 t282.length co32 : Value).ownBlock) ∧ some k_ ≠ (.slice Ao35 t264.length co35 : Value).ownBlock) ∧ some k_ ≠ (.slice Ao40 t267.length co40 : Value).ownBlock) ∧ some k_ ≠ (.slice Ao97 t288.length co97 : Value).ownBlock) ∧ some k_ ≠ (.slice Ao98 t291.length co98 : Value).ownBlock)) (n := t294.length) (c := co101) ?_).2.2; exact (by (with_reducible repeat (first | apply Kd.R_alloc | apply Kd.R_drewN | apply Kd.R_drew)); exact (Kd.R_mono (Kd.R_far (p := ⟨gb301, 1, none⟩) (Kd.R_far (p := ⟨gb301, 0, none⟩) (Kd.R_types HO296.out BK301.out (by decide)) (fun _ hk => hk.2) (.slice Ao101 t294.length co101)) (fun _ hk => hk.2) (.slice Ao107 t297.length co107)) (fun _ h_ => h_.1)))); (case side2 => exact (Kd.R_reads' HO296.out).2.1); (case side3 => refine (Kd.R_reads' (e := 3) (base := w.heap.size) (ok := fun k_ => ((((((((some k_ ≠ (.slice Ao101 t294.length co101 : Value).ownBlock ∧ some k_ ≠ (.slice Ao21 t249.length co21 : Value).ownBlock) ∧ some k_ ≠ (.slice Ao24 t252.length co24 : Value).ownBlock) ∧ some k_ ≠ (.slice Ao28 t281.length co28 : Value).ownBlock) ∧ some k_ ≠ (.slice Ao32 t282.length co32 : Value).ownBlock) ∧ some k_ ≠ (.slice Ao35 t264.length co35 : Value).ownBlock) ∧ some k_ ≠ (.slice Ao40 t267.length co40 : Value).ownBlock) ∧ some k_ ≠ (.slice Ao97 t288.length co97 : Value).ownBlock) ∧ some k_ ≠ (.slice Ao98 t291.length co98 : Value).ownBlock)) (n := t297.length) (c := co107) ?_).2.2; exact (by (with_reducible repeat (first | apply Kd.R_alloc | apply Kd.R_drewN | apply Kd.R_drew)); exact (Kd.R_mono (Kd.R_far (p := ⟨gb301, 1, none⟩) (Kd.R_far (p := ⟨gb301, 0, none⟩) (Kd.R_types HO299.out BK301.out (by decide)) (fun _ hk => hk.2) (.slice Ao101 t294.length co101)) (fun _ hk => hk.2) (.slice Ao107 t297.length co107)) (fun _ h_ => h_.1)))); (case side4 => exact (Kd.R_reads' HO299.out).2.1); (case side5 => refine (Kd.R_reads' (e := 3) (base := w.heap.size) (ok := fun k_ => (((((some k_ ≠ (.slice Ao24 t252.length co24 : Value).ownBlock ∧ (some k_ ≠ (.slice Ao28 t281.length co28 : Value).ownBlock ∧ (some k_ ≠ (.slice Ao32 t282.length co32 : Value).ownBlock ∧ (some k_ ≠ (.slice Ao35 t264.length co35 : Value).ownBlock ∧ some k_ ≠ (.slice Ao40 t267.length co40 : Value).ownBlock)))) ∧ some k_ ≠ (.slice Ao97 t288.length co97 : Value).ownBlock) ∧ some k_ ≠ (.slice Ao98 t291.length co98 : Value).ownBlock) ∧ some k_ ≠ (.slice Ao101 t294.length co101 : Value).ownBlock) ∧ some k_ ≠ (.slice Ao107 t297.length co107 : Value).ownBlock)) (n := t249.length) (c := co21) ?_).2.2; exact (by (with_reducible repeat (first | apply Kd.R_alloc | apply Kd.R_drewN | apply Kd.R_drew)); exact (Kd.R_mono (Kd.R_far (p := ⟨gb301, 1, none⟩) (Kd.R_far (p := ⟨gb301, 0, none⟩) (Kd.R_types HO_257000.out BK301.out (by decide)) (fun _ hk => hk.2) (.slice Ao101 t294.length co101)) (fun _ hk => hk.2) (.slice Ao107 t297.length co107)) (fun _ h_ => h_.1)))); (case side6 => exact (Kd.R_reads' HO_257000.out).2.1); (case side7 => refine (Kd.R_reads' (e := 3) (base := w.heap.size) (ok := fun k_ => (((((some k_ ≠ (.slice Ao21 t249.length co21 : Value).ownBlock ∧ (some k_ ≠ (.slice Ao28 t281.length co28 : Value).ownBlock ∧ (some k_ ≠ (.slice Ao32 t282.length co32 : Value).ownBlock ∧ (some k_ ≠ (.slice Ao35 t264.length co35 : Value).ownBlock ∧ some k_ ≠ (.slice Ao40 t267.length co40 : Value).ownBlock)))) ∧ some k_ ≠ (.slice Ao97 t288.length co97 : Value).ownBlock) ∧ some k_ ≠ (.slice Ao98 t291.length co98 : Value).ownBlock) ∧ some k_ ≠ (.slice Ao101 t294.length co101 : Value).ownBlock) ∧ some k_ ≠ (.slice Ao107 t297.length co107 : Value).ownBlock)) (n := t252.length) (c := co24) ?_).2.2; exact (by (with_reducible repeat (first | apply Kd.R_alloc | apply Kd.R_drewN | apply Kd.R_drew)); exact (Kd.R_mono (Kd.R_far (p := ⟨gb301, 1, none⟩) (Kd.R_far (p := ⟨gb301, 0, none⟩) (Kd.R_types HO_257001.out BK301.out (by decide)) (fun _ hk => hk.2) (.slice Ao101 t294.length co101)) (fun _ hk => hk.2) (.slice Ao107 t297.length co107)) (fun _ h_ => h_.1)))); (case side8 => exact (Kd.R_reads' HO_257001.out).2.1); rintro e w119 ⟨rfl, hb⟩; refine ⟨_, rfl, ?_⟩; have n0_ := Aside0.mk (Kd.R_below (by (with_reducible repeat (first | apply Kd.R_alloc | apply Kd.R_drewN | apply Kd.R_drew)); exact (Kd.R_mono (Kd.R_far (p := ⟨gb301, 1, none⟩) (Kd.R_far (p := ⟨gb301, 0, none⟩) (Kd.R_types HO_257000.out BK301.out (by decide)) (fun _ hk => hk.2) (.slice Ao101 t294.length co101)) (fun _ hk => hk.2) (.slice Ao107 t297.length co107)) (fun _ h_ => h_.1))) hb); have n1_ := Aside0.mk (Kd.R_below (by (with_reducible repeat (first | apply Kd.R_alloc | apply Kd.R_drewN | apply Kd.R_drew)); exact (Kd.R_mono (Kd.R_far (p := ⟨gb301, 1, none⟩) (Kd.R_far (p := ⟨gb301, 0, none⟩) (Kd.R_types HO_257001.out BK301.out (by decide)) (fun _ hk => hk.2) (.slice Ao101 t294.length co101)) (fun _ hk => hk.2) (.slice Ao107 t297.length co107)) (fun _ h_ => h_.1))) hb); have n2_ := Aside0.mk (Kd.R_below (by (with_reducible repeat (first | apply Kd.R_alloc | apply Kd.R_drewN | apply Kd.R_drew)); exact (Kd.R_mono (Kd.R_far (p := ⟨gb301, 1, none⟩) (Kd.R_far (p := ⟨gb301, 0, none⟩) (Kd.R_types HO_264000.out BK301.out (by decide)) (fun _ hk => hk.2) (.slice Ao101 t294.length co101)) (fun _ hk => hk.2) (.slice Ao107 t297.length co107)) (fun _ h_ => h_.1))) hb); have n3_ := Aside0.mk (Kd.R_below (by (with_reducible repeat (first | apply Kd.R_alloc | apply Kd.R_drewN | apply Kd.R_drew)); exact (Kd.R_mono (Kd.R_far (p := ⟨gb301, 1, none⟩) (Kd.R_far (p := ⟨gb301, 0, none⟩) (Kd.R_types HO_264001.out BK301.out (by decide)) (fun _ hk => hk.2) (.slice Ao101 t294.length co101)) (fun _ hk => hk.2) (.slice Ao107 t297.length co107)) (fun _ h_ => h_.1))) hb); have n4_ := Aside0.mk (Kd.R_below (by (with_reducible repeat (first | apply Kd.R_alloc | apply Kd.R_drewN | apply Kd.R_drew)); exact (Kd.R_mono (Kd.R_far (p := ⟨gb301, 1, none⟩) (Kd.R_far (p := ⟨gb301, 0, none⟩) (Kd.R_types HO_272000.out BK301.out (by decide)) (fun _ hk => hk.2) (.slice Ao101 t294.length co101)) (fun _ hk => hk.2) (.slice Ao107 t297.length co107)) (fun _ h_ => h_.1))) hb); have n5_ := Aside0.mk (Kd.R_below (by (with_reducible repeat (first | apply Kd.R_alloc | apply Kd.R_drewN | apply Kd.R_drew)); exact (Kd.R_mono (Kd.R_far (p := ⟨gb301, 1, none⟩) (Kd.R_far (p := ⟨gb301, 0, none⟩) (Kd.R_types HO_272001.out BK301.out (by decide)) (fun _ hk => hk.2) (.slice Ao101 t294.length co101)) (fun _ hk => hk.2) (.slice Ao107 t297.length co107)) (fun _ h_ => h_.1))) hb); have n6_ := Aside0.mk (Kd.R_below (by (with_reducible repeat (first | apply Kd.R_alloc | apply Kd.R_drewN | apply Kd.R_drew)); exact (Kd.R_mono (Kd.R_far (p := ⟨gb301, 1, none⟩) (Kd.R_far (p := ⟨gb301, 0, none⟩) (Kd.R_types HO290.out BK301.out (by decide)) (fun _ hk => hk.2) (.slice Ao101 t294.length co101)) (fun _ hk => hk.2) (.slice Ao107 t297.length co107)) (fun _ h_ => h_.1))) hb); have n7_ := Aside0.mk (Kd.R_below (by (with_reducible repeat (first | apply Kd.R_alloc | apply Kd.R_drewN | apply Kd.R_drew)); exact (Kd.R_mono (Kd.R_far (p := ⟨gb301, 1, none⟩) (Kd.R_far (p := ⟨gb301, 0, none⟩) (Kd.R_types HO293.out BK301.out (by decide)) (fun _ hk => hk.2) (.slice Ao101 t294.length co101)) (fun _ hk => hk.2) (.slice Ao107 t297.length co107)) (fun _ h_ => h_.1))) hb); have n8_ := Aside0.mk (Kd.R_below (by (with_reducible repeat (first | apply Kd.R_alloc | apply Kd.R_drewN | apply Kd.R_drew)); exact (Kd.R_mono (Kd.R_far (p := ⟨gb301, 1, none⟩) (Kd.R_far (p := ⟨gb301, 0, none⟩) (Kd.R_types HO296.out BK301.out (by decide)) (fun _ hk => hk.2) (.slice Ao101 t294.length co101)) (fun _ hk => hk.2) (.slice Ao107 t297.length co107)) (fun _ h_ => h_.1))) hb); have n9_ := Aside0.mk (Kd.R_below (by (with_reducible repeat (first | apply Kd.R_alloc | apply Kd.R_drewN | apply Kd.R_drew)); exact (Kd.R_mono (Kd.R_far (p := ⟨gb301, 1, none⟩) (Kd.R_far (p := ⟨gb301, 0, none⟩) (Kd.R_types HO299.out BK301.out (by decide)) (fun _ hk => hk.2) (.slice Ao101 t294.length co101)) (fun _ hk => hk.2) (.slice Ao107 t297.length co107)) (fun _ h_ => h_.1))) hb); have n10_ := Aside0.mk (blk_below (g := gb241) (o := .cells #[.slice A0_0 l0_0.length c0_0, .slice A0_1 l0_1.length c0_1] 24 (0, 0)) (by (with_reducible repeat (first | refine blk_drewN ?_ _ | refine blk_drew ?_ | refine blk_alloc ?_ _)); refine blk_far ?_ NB241_301.out _; (with_reducible repeat (first | refine blk_drewN ?_ _ | refine blk_drew ?_ | refine blk_alloc ?_ _)); refine blk_far ?_ NB241_301.out _; (with_reducible repeat (first | refine blk_drewN ?_ _ | refine blk_drew ?_ | refine blk_alloc ?_ _)); exact BK241.out) hb); have n11_ := Aside0.mk (blk_below (g := gb256) (o := .cells #[.slice Ao21 t249.length co21, .slice Ao24 t252.length co24] 26 (0, 0)) (by (with_reducible repeat (first | refine blk_drewN ?_ _ | refine blk_drew ?_ | refine blk_alloc ?_ _)); refine blk_far ?_ NB256_301.out _; (with_reducible repeat (first | refine blk_drewN ?_ _ | refine blk_drew ?_ | refine blk_alloc ?_ _)); refine blk_far ?_ NB256_301.out _; (with_reducible repeat (first | refine blk_drewN ?_ _ | refine blk_drew ?_ | refine blk_alloc ?_ _)); exact BK256.out) hb); have n12_ := Aside0.mk (blk_below (g := gb263) (o := .cells #[.slice Ao28 t281.length co28, .slice Ao32 t282.length co32] 26 (0, 0)) (by (with_reducible repeat (first | refine blk_drewN ?_ _ | refine blk_drew ?_ | refine blk_alloc ?_ _)); refine blk_far ?_ NB263_301.out _; (with_reducible repeat (first | refine blk_drewN ?_ _ | refine blk_drew ?_ | refine blk_alloc ?_ _)); refine blk_far ?_ NB263_301.out _; (with_reducible repeat (first | refine blk_drewN ?_ _ | refine blk_drew ?_ | refine blk_alloc ?_ _)); exact BK263.out) hb); have n13_ := Aside0.mk (blk_below (g := gb271) (o := .cells #[.slice Ao35 t264.length co35, .slice Ao40 t267.length co40] 26 (0, 0)) (by (with_reducible repeat (first | refine blk_drewN ?_ _ | refine blk_drew ?_ | refine blk_alloc ?_ _)); refine blk_far ?_ NB271_301.out _; (with_reducible repeat (first | refine blk_drewN ?_ _ | refine blk_drew ?_ | refine blk_alloc ?_ _)); refine blk_far ?_ NB271_301.out _; (with_reducible repeat (first | refine blk_drewN ?_ _ | refine blk_drew ?_ | refine blk_alloc ?_ _)); exact BK271.out) hb); have n14_ := Aside0.mk (blk_below (g := gb301) (o := .cells #[.slice Ao101 t294.length co101, .slice Ao107 t297.length co107] 26 (0, 0)) (by (with_reducible repeat (first | refine blk_drewN ?_ _ | refine blk_drew ?_ | refine blk_alloc ?_ _)); refine blk_put (cs := #[.slice Ao101 t294.length co101, .slice none 0 0]) ?_ 1 _ rfl; (with_reducible repeat (first | refine blk_drewN ?_ _ | refine blk_drew ?_ | refine blk_alloc ?_ _)); refine blk_put (cs := #[.slice none 0 0, .slice none 0 0]) ?_ 0 _ rfl; (with_reducible repeat (first | refine blk_drewN ?_ _ | refine blk_drew ?_ | refine blk_alloc ?_ _)); exact BK301.out) hb); have n15_ := Aside0.mk (below_step (by repeat (first | (with_reducible first | exact HB.out | apply below_alloc | apply pw_below_drewN | apply below_drew1 | refine below_set ?_ GE241.out | refine below_set ?_ GE256.out | refine below_set ?_ GE263.out | refine below_set ?_ GE271.out | refine below_set ?_ GE301.out) | exact HB.out)) hb); clear HO_257000; clear HO_257001; clear HO_264000; clear HO_264001; clear HO_272000; clear HO_272001; clear HO290; clear HO293; clear HO296; clear HO299; clear BK241; clear BK256; clear BK263; clear BK271; clear BK301; clear HB; have HO_257000 := n0_; have HO_257001 := n1_; have HO_264000 := n2_; have HO_264001 := n3_; have HO_272000 := n4_; have HO_272001 := n5_; have HO290 := n6_; have HO293 := n7_; have HO296 := n8_; have HO299 := n9_; have BK241 := n10_; have BK256 := n11_; have BK263 := n12_; have BK271 := n13_; have BK301 := n14_; have HB := n15_; clear n0_ n1_ n2_ n3_ n4_ n5_ n6_ n7_ n8_ n9_ n10_ n11_ n12_ n13_ n14_ n15_; (try clear hb); (try clear hb2); (try clear hk); (try clear hi)))
                          go_meet
                          case rel => exact ⟨_, ((t300 != t255)), (by first | rfl | (simp; done) | (simp [*]; done)), H', ⟨by have := HJ10.out; have := HJ55.out; first | omega | exact Nat.le_refl _⟩, ⟨by (try simp only [hl264000_55]); (try simp only [hl264001_55]); (with_reducible repeat (first | apply Kd.R_alloc | apply Kd.R_drewN | apply Kd.R_drew)); exact Kd.R_mono HO_257000.out (fun _ hk => ⟨hk.1.1.1.1.1, ⟨hk.1.1.1.1.2.1, ⟨hk.1.1.1.1.2.2.1, ⟨hk.1.1.1.1.2.2.2.1, ⟨hk.1.1.1.1.2.2.2.2, ⟨hk.1.2, hk.2⟩⟩⟩⟩⟩⟩)⟩, ⟨by (try simp only [hl264000_55]); (try simp only [hl264001_55]); (with_reducible repeat (first | apply Kd.R_alloc | apply Kd.R_drewN | apply Kd.R_drew)); exact Kd.R_mono HO_257001.out (fun _ hk => ⟨hk.1.1.1.1.1, ⟨hk.1.1.1.1.2.1, ⟨hk.1.1.1.1.2.2.1, ⟨hk.1.1.1.1.2.2.2.1, ⟨hk.1.1.1.1.2.2.2.2, ⟨hk.1.2, hk.2⟩⟩⟩⟩⟩⟩)⟩, ⟨by (try simp only [hl264000_55]); (try simp only [hl264001_55]); (with_reducible repeat (first | apply Kd.R_alloc | apply Kd.R_drewN | apply Kd.R_drew)); exact Kd.R_mono HO_264000.out (fun _ hk => ⟨hk.1.1.1.1.1, ⟨hk.1.1.1.1.2.1, ⟨hk.1.1.1.1.2.2.1, ⟨hk.1.1.1.1.2.2.2.1, ⟨hk.1.1.1.1.2.2.2.2, ⟨hk.1.2, hk.2⟩⟩⟩⟩⟩⟩)⟩, ⟨by (try simp only [hl264000_55]); (try simp only [hl264001_55]); (with_reducible repeat (first | apply Kd.R_alloc | apply Kd.R_drewN | apply Kd.R_drew)); exact Kd.R_mono HO_264001.out (fun _ hk => ⟨hk.1.1.1.1.1, ⟨hk.1.1.1.1.2.1, ⟨hk.1.1.1.1.2.2.1, ⟨hk.1.1.1.1.2.2.2.1, ⟨hk.1.1.1.1.2.2.2.2, ⟨hk.1.2, hk.2⟩⟩⟩⟩⟩⟩)⟩, ⟨by (try simp only [hl264000_55]); (try simp only [hl264001_55]); (with_reducible repeat (first | apply Kd.R_alloc | apply Kd.R_drewN | apply Kd.R_drew)); exact Kd.R_mono HO_272000.out (fun _ hk => ⟨hk.1.1.1.1.1, ⟨hk.1.1.1.1.2.1, ⟨hk.1.1.1.1.2.2.1, ⟨hk.1.1.1.1.2.2.2.1, ⟨hk.1.1.1.1.2.2.2.2, ⟨hk.1.2, hk.2⟩⟩⟩⟩⟩⟩)⟩, ⟨by (try simp only [hl264000_55]); (try simp only [hl264001_55]); (with_reducible repeat (first | apply Kd.R_alloc | apply Kd.R_drewN | apply Kd.R_drew)); exact Kd.R_mono HO_272001.out (fun _ hk => ⟨hk.1.1.1.1.1, ⟨hk.1.1.1.1.2.1, ⟨hk.1.1.1.1.2.2.1, ⟨hk.1.1.1.1.2.2.2.1, ⟨hk.1.1.1.1.2.2.2.2, ⟨hk.1.2, hk.2⟩⟩⟩⟩⟩⟩)⟩, ⟨by (try simp only [hl264000_55]); (try simp only [hl264001_55]); (with_reducible repeat (first | apply Kd.R_alloc | apply Kd.R_drewN | apply Kd.R_drew)); exact Kd.R_mono HO296.out (fun _ hk => ⟨hk.1.1.1.1.1.1.1.2, ⟨hk.1.1.1.1.1.1.2, ⟨hk.1.1.1.1.1.2, ⟨hk.1.1.1.1.2, ⟨hk.1.1.1.2, ⟨hk.1.1.2, hk.1.1.1.1.1.1.1.1⟩⟩⟩⟩⟩⟩)⟩, ⟨by (try simp only [hl264000_55]); (try simp only [hl264001_55]); (with_reducible repeat (first | apply Kd.R_alloc | apply Kd.R_drewN | apply Kd.R_drew)); exact Kd.R_mono HO299.out (fun _ hk => ⟨hk.1.1.1.1.1.1.1.2, ⟨hk.1.1.1.1.1.1.2, ⟨hk.1.1.1.1.1.2, ⟨hk.1.1.1.1.2, ⟨hk.1.1.1.2, ⟨hk.1.1.2, hk.1.1.1.1.1.1.1.1⟩⟩⟩⟩⟩⟩)⟩, ⟨by (try simp only [hl264000_55]); (try simp only [hl264001_55]); (with_reducible repeat (first | refine blk_drewN ?_ _ | refine blk_drew ?_ | refine blk_alloc ?_ _)); exact BK241.out⟩, ⟨by (try simp only [hl264000_55]); (try simp only [hl264001_55]); (with_reducible repeat (first | refine blk_drewN ?_ _ | refine blk_drew ?_ | refine blk_alloc ?_ _)); exact BK256.out⟩, ⟨by (try simp only [hl264000_55]); (try simp only [hl264001_55]); (with_reducible repeat (first | refine blk_drewN ?_ _ | refine blk_drew ?_ | refine blk_alloc ?_ _)); exact BK263.out⟩, ⟨by (try simp only [hl264000_55]); (try simp only [hl264001_55]); (with_reducible repeat (first | refine blk_drewN ?_ _ | refine blk_drew ?_ | refine blk_alloc ?_ _)); exact BK271.out⟩, ⟨by (try simp only [hl264000_55]); (try simp only [hl264001_55]); (with_reducible repeat (first | refine blk_drewN ?_ _ | refine blk_drew ?_ | refine blk_alloc ?_ _)); exact BK301.out⟩, ⟨by repeat (first | (with_reducible first | exact HB.out | apply below_alloc | apply pw_below_drewN | apply below_drew1 | refine below_set ?_ GE241.out | refine below_set ?_ GE256.out | refine below_set ?_ GE263.out | refine below_set ?_ GE271.out | refine below_set ?_ GE301.out) | exact HB.out)⟩⟩
                        · replace c109 := Bool.eq_false_iff.mpr c109
                          subst c109
                          have H1 : (laws_FnExactFlip.j2 kj55 t284 true t285 t286) = some r := by rw [if_neg (show ¬ (false = true) by decide)] at H; exact H
                          clear H
                          have H := H1
                          clear H1
                          have hz_ : ∀ kz, laws_FnExactFlip.j2 kz t284 true t285 t286 = some r → r = false := by intro kz hz; cases kz with | zero => exact absurd hz (by simp [laws_FnExactFlip.j2]) | succ kz => simp only [laws_FnExactFlip.j2] at hz; first | (rw [if_pos rfl] at hz; exact (Option.some.inj hz).symm) | (simp at hz; exact hz.symm) | (simp at hz; exact hz)
                          exact absurd (HT.out.symm.trans (hz_ _ H)) (by decide)
                      case rest =>
                        clear HC85
                        try clear c1
                        try clear c2
                        try clear p2
                        try clear c3
                        try clear c3b0
                        try clear c4
                        try clear c5
                        try clear c6
                        try clear c7
                        try clear c8
                        try clear c9
                        try clear c10
                        try clear c11
                        try clear c15
                        try clear c17
                        try clear c19
                        try clear c20
                        try clear c21
                        try clear c22
                        try clear c29
                        try clear c30
                        try clear c36
                        try clear c37
                        try clear c38
                        try clear c41
                        try clear c42
                        try clear c43
                        try clear c44
                        try clear c45
                        try clear c47
                        try clear c48
                        try clear c51
                        try clear c54
                        try clear c62
                        try clear c63
                        try clear c64
                        try clear c67
                        try clear c67b0
                        try clear c69
                        try clear c70
                        try clear c71
                        try clear c72
                        try clear c74
                        try clear c75
                        try clear c78
                        try clear c81
                        try clear c81b0
                        try clear c82
                        try clear c82b0
                        try clear c82b1
                        try clear c86
                        try clear c87
                        try clear c88
                        try clear c93
                        try clear c94
                        try clear c102
                        try clear c103
                        try clear c104
                        try clear c105
                        try clear c109
                        try clear c110
                        try clear c111
                        try clear c112
                        try clear c113
                        try clear c115
                        try clear c116
                        try clear c117
                        try clear hcz106_0
                        try clear hcz106_1
                        try clear hcz114_0
                        try clear hcz114_1
                        try clear hcz118_0
                        try clear hcz118_1
                        try clear hcz13_0
                        try clear hcz13_1
                        try clear hcz15_0
                        try clear hcz15_1
                        try clear hcz23_0
                        try clear hcz23_1
                        try clear hcz25_0
                        try clear hcz25_1
                        try clear hcz31_0
                        try clear hcz31_1
                        try clear hcz39_0
                        try clear hcz39_1
                        try clear hcz46_0
                        try clear hcz46_1
                        try clear hcz49_0
                        try clear hcz49_1
                        try clear hcz5_0
                        try clear hcz5_1
                        try clear hcz65_0
                        try clear hcz65_1
                        try clear hcz73_0
                        try clear hcz73_1
                        try clear hcz76_0
                        try clear hcz76_1
                        try clear hcz89_0
                        try clear hcz89_1
                        try clear hcz91_0
                        try clear hcz91_1
                        try clear hcz95_0
                        try clear hcz95_1
                        try clear hfz106_0
                        try clear hfz106_1
                        try clear hfz114_0
                        try clear hfz114_1
                        try clear hfz118_0
                        try clear hfz118_1
                        try clear hfz13_0
                        try clear hfz13_1
                        try clear hfz15_0
                        try clear hfz15_1
                        try clear hfz23_0
                        try clear hfz23_1
                        try clear hfz25_0
                        try clear hfz25_1
                        try clear hfz31_0
                        try clear hfz31_1
                        try clear hfz39_0
                        try clear hfz39_1
                        try clear hfz46_0
                        try clear hfz46_1
                        try clear hfz49_0
                        try clear hfz49_1
                        try clear hfz5_0
                        try clear hfz5_1
                        try clear hfz65_0
                        try clear hfz65_1
                        try clear hfz73_0
                        try clear hfz73_1
                        try clear hfz76_0
                        try clear hfz76_1
                        try clear hfz89_0
                        try clear hfz89_1
                        try clear hfz91_0
                        try clear hfz91_1
                        try clear hfz95_0
                        try clear hfz95_1
                        try clear p2
                        obtain ⟨kq, x87_84, rfl, HA, HJ84, HO_257000, HO_257001, HO_264000, HO_264001, HO_272000, HO_272001, HO_302000, HO_302001, BK241, BK256, BK263, BK271, BK301, HB⟩ := hcut
                        have hl272000_84 := (Kd.R_reads' HO_272000.out).1
                        rw [hl272000_84] at HO_272000
                        (try simp only [hl272000_84])
                        (try simp only [hl272000_84] at BK241)
                        (try simp only [hl272000_84] at BK256)
                        (try simp only [hl272000_84] at BK263)
                        (try simp only [hl272000_84] at BK271)
                        (try simp only [hl272000_84] at BK301)
                        (try simp only [hl272000_84] at HO_257000)
                        (try simp only [hl272000_84] at HO_257001)
                        (try simp only [hl272000_84] at HO_264000)
                        (try simp only [hl272000_84] at HO_264001)
                        (try simp only [hl272000_84] at HO_272001)
                        (try simp only [hl272000_84] at HO_302000)
                        (try simp only [hl272000_84] at HO_302001)
                        have hl272001_84 := (Kd.R_reads' HO_272001.out).1
                        rw [hl272001_84] at HO_272001
                        (try simp only [hl272001_84])
                        (try simp only [hl272001_84] at BK241)
                        (try simp only [hl272001_84] at BK256)
                        (try simp only [hl272001_84] at BK263)
                        (try simp only [hl272001_84] at BK271)
                        (try simp only [hl272001_84] at BK301)
                        (try simp only [hl272001_84] at HO_257000)
                        (try simp only [hl272001_84] at HO_257001)
                        (try simp only [hl272001_84] at HO_264000)
                        (try simp only [hl272001_84] at HO_264001)
                        (try simp only [hl272001_84] at HO_272000)
                        (try simp only [hl272001_84] at HO_302000)
                        (try simp only [hl272001_84] at HO_302001)
                        cases kq with
                        | zero => exact absurd HA.out (by simp [laws_FnExactFlip.j2])
                        | succ kj84 =>
                          have H := HA.out
                          clear HA
                          simp only [laws_FnExactFlip.j2] at H
                          by_cases c120 : x87_84 = true
                          · subst c120
                            have H1 : (some false) = some r := by rw [if_pos rfl] at H; exact H
                            clear H
                            have H := H1
                            clear H1
                            obtain rfl := Option.some.inj H
                            exact absurd HT.out (by decide)
                          · replace c120 := Bool.eq_false_iff.mpr c120
                            subst c120
                            have H1 : ((laws_heldArray.f kj84 t285 t286 1).bind fun t303 => (if t303 < 0 then (some false) else (if t303 = t284 then (some true) else (some false)))) = some r := by rw [if_neg (show ¬ (false = true) by decide)] at H; exact H
                            clear H
                            have H := H1
                            clear H1
                            replace H := Option.bind_eq_some_iff.mp H
                            obtain ⟨t303, A1210, H⟩ := H
                            replace H : (if t303 < 0 then (some false) else (if t303 = t284 then (some true) else (some false))) = some r := H
                            have A121 := Aside0.mk A1210
                            clear A1210
                            by_cases c122 : t303 < 0
                            · rw [if_pos c122] at H
                              have c122b0 : decide (t303 < 0) = true := decide_eq_true c122
                              clear c122
                              obtain rfl := Option.some.inj H
                              exact absurd HT.out (by decide)
                            · rw [if_neg c122] at H
                              have c122b0 : decide (t303 < 0) = false := decide_eq_false c122
                              clear c122
                              by_cases c123 : t303 = t284
                              · rw [if_pos c123] at H
                                have c123b0 : (t303 == t284) = true := beq_iff_eq.mpr c123
                                have c123b1 : (t303 != t284) = false := bne_eq_false_iff_eq.mpr c123
                                clear c123
                                obtain rfl := Option.some.inj H
                                have hnb124 := NB271_241.out
                                have hnc124 := NB241_271.out
                                have hnb125 := NB271_256.out
                                have hnc125 := NB256_271.out
                                have hnb126 := NB271_263.out
                                have hnc126 := NB263_271.out
                                have hnb127 := NB271_301.out
                                have hnc127 := NB301_271.out
                                have hcz128_0 : wc.cell? ⟨gb271, 0, none⟩ = some (.slice Ao35 t285.length co35) := (blk_cell BK271.out 0).trans rfl
                                have hcz128_1 : wc.cell? ⟨gb271, 1, none⟩ = some (.slice Ao40 t286.length co40) := (blk_cell BK271.out 1).trans rfl
                                have hfz128_0 := blk_frozen BK271.out 0
                                have hfz128_1 := blk_frozen BK271.out 1
                                go_wp2_with (first | ((with_reducible refine gate_callee (f := 21) rfl ?_); refine goesL_ (some 90) rfl rfl Try.func21 (by kernel_rfl) rfl #[.agg #[.slice Ao35 t285.length co35, .slice Ao40 t286.length co40], .int .i64 1] rfl (by (try simp only [List.map_toArray, List.map_cons, List.map_nil]); first | done | rfl | (simp only [List.length_drop, List.length_take]; rfl)) ?_; (with_reducible refine (laws_heldArray.calls kj84 _ _ t285 _ _ t286 1 t303 _ ?side1 ?side2 ?side3 ?side4 A121.out).mono ?_); (case side1 => repeat (first | exact (Kd.R_reads' HO_272000.out).2.2 | (with_reducible refine Kd.C_alloc ?_ _) | (with_reducible refine Kd.C_drewN ?_ _) | (with_reducible refine Kd.C_drew ?_))); (case side2 => exact (Kd.R_reads' HO_272000.out).2.1); (case side3 => repeat (first | exact (Kd.R_reads' HO_272001.out).2.2 | (with_reducible refine Kd.C_alloc ?_ _) | (with_reducible refine Kd.C_drewN ?_ _) | (with_reducible refine Kd.C_drew ?_))); (case side4 => exact (Kd.R_reads' HO_272001.out).2.1); rintro e w129 ⟨rfl, hb⟩; refine ⟨_, rfl, ?_⟩; have n0_ := Aside0.mk (Kd.R_below (by (with_reducible repeat (first | apply Kd.R_alloc | apply Kd.R_drewN | apply Kd.R_drew)); exact HO_257000.out) hb); have n1_ := Aside0.mk (Kd.R_below (by (with_reducible repeat (first | apply Kd.R_alloc | apply Kd.R_drewN | apply Kd.R_drew)); exact HO_257001.out) hb); have n2_ := Aside0.mk (Kd.R_below (by (with_reducible repeat (first | apply Kd.R_alloc | apply Kd.R_drewN | apply Kd.R_drew)); exact HO_264000.out) hb); have n3_ := Aside0.mk (Kd.R_below (by (with_reducible repeat (first | apply Kd.R_alloc | apply Kd.R_drewN | apply Kd.R_drew)); exact HO_264001.out) hb); have n4_ := Aside0.mk (Kd.R_below (by (with_reducible repeat (first | apply Kd.R_alloc | apply Kd.R_drewN | apply Kd.R_drew)); exact HO_272000.out) hb); have n5_ := Aside0.mk (Kd.R_below (by (with_reducible repeat (first | apply Kd.R_alloc | apply Kd.R_drewN | apply Kd.R_drew)); exact HO_272001.out) hb); have n6_ := Aside0.mk (Kd.R_below (by (with_reducible repeat (first | apply Kd.R_alloc | apply Kd.R_drewN | apply Kd.R_drew)); exact HO_302000.out) hb); have n7_ := Aside0.mk (Kd.R_below (by (with_reducible repeat (first | apply Kd.R_alloc | apply Kd.R_drewN | apply Kd.R_drew)); exact HO_302001.out) hb); have n8_ := Aside0.mk (blk_below (g := gb241) (o := .cells #[.slice A0_0 l0_0.length c0_0, .slice A0_1 l0_1.length c0_1] 24 (0, 0)) (by (with_reducible repeat (first | refine blk_drewN ?_ _ | refine blk_drew ?_ | refine blk_alloc ?_ _)); exact BK241.out) hb); have n9_ := Aside0.mk (blk_below (g := gb256) (o := .cells #[.slice Ao21 t249.length co21, .slice Ao24 t252.length co24] 26 (0, 0)) (by (with_reducible repeat (first | refine blk_drewN ?_ _ | refine blk_drew ?_ | refine blk_alloc ?_ _)); exact BK256.out) hb); have n10_ := Aside0.mk (blk_below (g := gb263) (o := .cells #[.slice Ao28 t281.length co28, .slice Ao32 t282.length co32] 26 (0, 0)) (by (with_reducible repeat (first | refine blk_drewN ?_ _ | refine blk_drew ?_ | refine blk_alloc ?_ _)); exact BK263.out) hb); have n11_ := Aside0.mk (blk_below (g := gb271) (o := .cells #[.slice Ao35 t285.length co35, .slice Ao40 t286.length co40] 26 (0, 0)) (by (with_reducible repeat (first | refine blk_drewN ?_ _ | refine blk_drew ?_ | refine blk_alloc ?_ _)); exact BK271.out) hb); have n12_ := Aside0.mk (blk_below (g := gb301) (o := .cells #[.slice Ao101 t294.length co101, .slice Ao107 t297.length co107] 26 (0, 0)) (by (with_reducible repeat (first | refine blk_drewN ?_ _ | refine blk_drew ?_ | refine blk_alloc ?_ _)); exact BK301.out) hb); have n13_ := Aside0.mk (below_step (by repeat (first | (with_reducible first | exact HB.out | apply below_alloc | apply pw_below_drewN | apply below_drew1 | refine below_set ?_ GE241.out | refine below_set ?_ GE256.out | refine below_set ?_ GE263.out | refine below_set ?_ GE271.out | refine below_set ?_ GE301.out) | exact HB.out)) hb); clear HO_257000; clear HO_257001; clear HO_264000; clear HO_264001; clear HO_272000; clear HO_272001; clear HO_302000; clear HO_302001; clear BK241; clear BK256; clear BK263; clear BK271; clear BK301; clear HB; have HO_257000 := n0_; have HO_257001 := n1_; have HO_264000 := n2_; have HO_264001 := n3_; have HO_272000 := n4_; have HO_272001 := n5_; have HO_302000 := n6_; have HO_302001 := n7_; have BK241 := n8_; have BK256 := n9_; have BK263 := n10_; have BK271 := n11_; have BK301 := n12_; have HB := n13_; clear n0_ n1_ n2_ n3_ n4_ n5_ n6_ n7_ n8_ n9_ n10_ n11_ n12_ n13_; (try clear hb); (try clear hb2); (try clear hk); (try clear hi)))
                                go_ret
                                exact ⟨by first | rfl | (simp [errW_none, errW_some] <;> rfl) | (simp [*, errW_none, errW_some] <;> rfl), by repeat (first | (with_reducible first | exact HB.out | apply below_alloc | apply pw_below_drewN | apply below_drew1 | refine below_set ?_ GE241.out | refine below_set ?_ GE256.out | refine below_set ?_ GE263.out | refine below_set ?_ GE271.out | refine below_set ?_ GE301.out) | exact HB.out)⟩
                              · rw [if_neg c123] at H
                                have c123b0 : (t303 == t284) = false := beq_eq_false_iff_ne.mpr c123
                                have c123b1 : (t303 != t284) = true := bne_iff_ne.mpr c123
                                obtain rfl := Option.some.inj H
                                exact absurd HT.out (by decide)
                    · rw [if_neg c82] at H
                      have c82b0 : (t287 == t284) = false := beq_eq_false_iff_ne.mpr c82
                      have c82b1 : (t287 != t284) = true := bne_iff_ne.mpr c82
                      obtain rfl := Option.some.inj H
                      exact absurd HT.out (by decide)
          · replace c54 := Bool.eq_false_iff.mpr c54
            subst c54
            have H1 : (some false) = some r := by rw [if_neg (show ¬ (false = true) by decide)] at H; exact H
            clear H
            have H := H1
            clear H1
            obtain rfl := Option.some.inj H
            exact absurd HT.out (by decide)

end Go.Proofs.Ytcnbajdnlkcjjaa.PFnExactFlip
