/- The walk of what a law reaches, for the law's row: written by a program of this session; it has no condition of its own. -/
import Derived.Test.YtlaikodjcjfeiaaPFnExactFitx0
import Derived.Test.YtlaikodjcjfeiaaPFnExactFitx1
import Derived.Test.YtlaikodjcjfeiaaPFnExactFitx2
import Derived.Test.YtlaikodjcjfeiaaPFnExactFitx4
namespace Go.Proofs.Ytlaikodjcjfeiaa.PFnExactFit
open Go.RowKit Go.Proofs.YtlaikodjcjfeiaaW.PrintWords Go.Proofs.YtlaikodjcjfeiaaW.PrintLast Go.Proofs.YtlaikodjcjfeiaaW.PrintMore
attribute [local go_sem] max2_int min2_int max_two min_two max_three min_three max_four min_four   -- for this text's walks alone
set_option linter.unusedVariables false
set_option linter.unusedSimpArgs false

/-! ### laws_FnExactFit: function 8 -/
mutual
def laws_FnExactFit.j0 : Nat → List Int → Int → List Int → Int → Bool → List Int → List Int → List Int → List Int → List Int → List Int → List Int → List Int → Option (Bool)
  | 0, _, _, _, _, _, _, _, _, _, _, _, _, _ => none
  | k + 1, x6, x7, x10, x11, x53, x198000, x198001, x199000, x199001, x224000, x224001, x231000, x231001 => if x53 = true then (some false) else ((laws_toArray.f k x198000 x198001).bind fun bt236 => ((laws_eqArray.f k x224000 x224001 bt236.1 bt236.2).bind fun t242 => (if t242 = true then ((laws_toArray.f k x199000 x199001).bind fun bt243 => ((laws_eqArray.f k x231000 x231001 bt243.1 bt243.2).bind fun t249 => (if t249 = true then ((laws_markArray.f k x224000 x224001 1).bind fun bt250 => ((laws_markArray.f k x231000 x231001 bt250.1).bind fun bt253 => (if bt253.1 < 0 then (laws_FnExactFit.j1 k x6 x7 x10 true x198000 x198001 x199000 x199001) else ((laws_eqIntS.f k x10 x6).bind fun t256 => (if t256 = true then (laws_FnExactFit.j1 k x6 x7 x10 (x11 != x7) x198000 x198001 x199000 x199001) else (laws_FnExactFit.j1 k x6 x7 x10 true x198000 x198001 x199000 x199001)))))) else (some false)))) else (some false))))
def laws_FnExactFit.j1 : Nat → List Int → Int → List Int → Bool → List Int → List Int → List Int → List Int → Option (Bool)
  | 0, _, _, _, _, _, _, _, _ => none
  | k + 1, x6, x7, x10, x82, x198000, x198001, x199000, x199001 => if x82 = true then (some false) else ((laws_markIntS.f k x10 1).bind fun bt257 => ((laws_heldIntS.f k bt257.2 1).bind fun t259 => (if t259 < 0 then (some false) else (if t259 = bt257.1 then ((laws_toArray.f k x198000 x198001).bind fun bt260 => ((laws_toArray.f k x199000 x199001).bind fun bt266 => ((impl_Fit.f k bt260.1 bt260.2 bt266.1 bt266.2).bind fun bt272 => ((laws_eqIntS.f k bt272.1 x6).bind fun t276 => (if t276 = true then (laws_FnExactFit.j2 k bt257.2 bt257.1 (bt272.2 != x7)) else (laws_FnExactFit.j2 k bt257.2 bt257.1 true)))))) else (some false)))))
def laws_FnExactFit.j2 : Nat → List Int → Int → Bool → Option (Bool)
  | 0, _, _, _ => none
  | k + 1, x10, x13, x110 => if x110 = true then (some false) else ((laws_heldIntS.f k x10 1).bind fun t277 => (if t277 < 0 then (some false) else (if t277 = x13 then (some true) else (some false))))
end
def laws_FnExactFit.f (k : Nat) (l0_0 : List Int) (l0_1 : List Int) (l1_0 : List Int) (l1_1 : List Int) : Option (Bool) := (laws_szArray.f l0_0 l0_1 1048576).bind fun t199 => (if t199 < 0 then (some true) else ((laws_szArray.f l1_0 l1_1 t199).bind fun t200 => (if t200 < 0 then (some true) else ((laws_toArray.f k l0_0 l0_1).bind fun bt201 => ((laws_toArray.f k l1_0 l1_1).bind fun bt207 => ((spec_Fit.f k bt201.1 bt201.2 bt207.1 bt207.2).bind fun bt213 => ((laws_toArray.f k l0_0 l0_1).bind fun bt217 => ((laws_toArray.f k l1_0 l1_1).bind fun bt224 => ((impl_Fit.f k bt217.1 bt217.2 bt224.1 bt224.2).bind fun bt231 => ((laws_eqIntS.f k bt231.1 bt213.1).bind fun t235 => (if t235 = true then (laws_FnExactFit.j0 k bt213.1 bt213.2 bt231.1 bt231.2 (bt231.2 != bt213.2) l0_0 l0_1 l1_0 l1_1 bt217.1 bt217.2 bt224.1 bt224.2) else (laws_FnExactFit.j0 k bt213.1 bt213.2 bt231.1 bt231.2 true l0_0 l0_1 l1_0 l1_1 bt217.1 bt217.2 bt224.1 bt224.2))))))))))))
theorem laws_FnExactFit.mono_l : ∀ k, (∀ y0 y1 y2 y3 y4 y5 y6 y7 y8 y9 y10 y11 y12, LeO (laws_FnExactFit.j0 k y0 y1 y2 y3 y4 y5 y6 y7 y8 y9 y10 y11 y12) (laws_FnExactFit.j0 (k + 1) y0 y1 y2 y3 y4 y5 y6 y7 y8 y9 y10 y11 y12)) ∧ (∀ y0 y1 y2 y3 y4 y5 y6 y7, LeO (laws_FnExactFit.j1 k y0 y1 y2 y3 y4 y5 y6 y7) (laws_FnExactFit.j1 (k + 1) y0 y1 y2 y3 y4 y5 y6 y7)) ∧ (∀ y0 y1 y2, LeO (laws_FnExactFit.j2 k y0 y1 y2) (laws_FnExactFit.j2 (k + 1) y0 y1 y2))
  | 0 => ⟨fun _ _ _ _ _ _ _ _ _ _ _ _ _ r h => by simp [laws_FnExactFit.j0] at h, fun _ _ _ _ _ _ _ _ r h => by simp [laws_FnExactFit.j1] at h, fun _ _ _ r h => by simp [laws_FnExactFit.j2] at h⟩
  | k + 1 => by
    obtain ⟨ih0, ih1, ih2⟩ := laws_FnExactFit.mono_l k
    refine ⟨?_, ?_, ?_⟩
    · intro y0 y1 y2 y3 y4 y5 y6 y7 y8 y9 y10 y11 y12
      unfold laws_FnExactFit.j0
      repeat' first
      | (with_reducible exact ih0 _ _ _ _ _ _ _ _ _ _ _ _ _)
      | (with_reducible exact ih1 _ _ _ _ _ _ _ _)
      | (with_reducible exact ih2 _ _ _)
      | (with_reducible exact impl_Fit.mono _ _ _ _ _)
      | (with_reducible exact laws_eqArray.mono _ _ _ _ _)
      | (with_reducible exact laws_eqIntS.mono _ _ _)
      | (with_reducible exact laws_heldIntS.mono _ _ _)
      | (with_reducible exact laws_markArray.mono _ _ _ _)
      | (with_reducible exact laws_markIntS.mono _ _ _)
      | (with_reducible exact laws_toArray.mono _ _ _)
      | (with_reducible exact spec_Fit.mono _ _ _ _ _)
      | (with_reducible exact LeO.refl _)
      | (with_reducible exact LeO.none _)
      | (with_reducible refine LeO.ite ?_ ?_)
      | (with_reducible refine LeO.bind ?_ (fun _ => ?_))
      | exact ih0 _ _ _ _ _ _ _ _ _ _ _ _ _
      | exact ih1 _ _ _ _ _ _ _ _
      | exact ih2 _ _ _
      | exact impl_Fit.mono _ _ _ _ _
      | exact laws_eqArray.mono _ _ _ _ _
      | exact laws_eqIntS.mono _ _ _
      | exact laws_heldIntS.mono _ _ _
      | exact laws_markArray.mono _ _ _ _
      | exact laws_markIntS.mono _ _ _
      | exact laws_toArray.mono _ _ _
      | exact spec_Fit.mono _ _ _ _ _
      | exact LeO.none _
      | refine LeO.ite ?_ ?_
      | refine LeO.bind ?_ (fun _ => ?_)
    · intro y0 y1 y2 y3 y4 y5 y6 y7
      unfold laws_FnExactFit.j1
      repeat' first
      | (with_reducible exact ih0 _ _ _ _ _ _ _ _ _ _ _ _ _)
      | (with_reducible exact ih1 _ _ _ _ _ _ _ _)
      | (with_reducible exact ih2 _ _ _)
      | (with_reducible exact impl_Fit.mono _ _ _ _ _)
      | (with_reducible exact laws_eqArray.mono _ _ _ _ _)
      | (with_reducible exact laws_eqIntS.mono _ _ _)
      | (with_reducible exact laws_heldIntS.mono _ _ _)
      | (with_reducible exact laws_markArray.mono _ _ _ _)
      | (with_reducible exact laws_markIntS.mono _ _ _)
      | (with_reducible exact laws_toArray.mono _ _ _)
      | (with_reducible exact spec_Fit.mono _ _ _ _ _)
      | (with_reducible exact LeO.refl _)
      | (with_reducible exact LeO.none _)
      | (with_reducible refine LeO.ite ?_ ?_)
      | (with_reducible refine LeO.bind ?_ (fun _ => ?_))
      | exact ih0 _ _ _ _ _ _ _ _ _ _ _ _ _
      | exact ih1 _ _ _ _ _ _ _ _
      | exact ih2 _ _ _
      | exact impl_Fit.mono _ _ _ _ _
      | exact laws_eqArray.mono _ _ _ _ _
      | exact laws_eqIntS.mono _ _ _
      | exact laws_heldIntS.mono _ _ _
      | exact laws_markArray.mono _ _ _ _
      | exact laws_markIntS.mono _ _ _
      | exact laws_toArray.mono _ _ _
      | exact spec_Fit.mono _ _ _ _ _
      | exact LeO.none _
      | refine LeO.ite ?_ ?_
      | refine LeO.bind ?_ (fun _ => ?_)
    · intro y0 y1 y2
      unfold laws_FnExactFit.j2
      repeat' first
      | (with_reducible exact ih0 _ _ _ _ _ _ _ _ _ _ _ _ _)
      | (with_reducible exact ih1 _ _ _ _ _ _ _ _)
      | (with_reducible exact ih2 _ _ _)
      | (with_reducible exact impl_Fit.mono _ _ _ _ _)
      | (with_reducible exact laws_eqArray.mono _ _ _ _ _)
      | (with_reducible exact laws_eqIntS.mono _ _ _)
      | (with_reducible exact laws_heldIntS.mono _ _ _)
      | (with_reducible exact laws_markArray.mono _ _ _ _)
      | (with_reducible exact laws_markIntS.mono _ _ _)
      | (with_reducible exact laws_toArray.mono _ _ _)
      | (with_reducible exact spec_Fit.mono _ _ _ _ _)
      | (with_reducible exact LeO.refl _)
      | (with_reducible exact LeO.none _)
      | (with_reducible refine LeO.ite ?_ ?_)
      | (with_reducible refine LeO.bind ?_ (fun _ => ?_))
      | exact ih0 _ _ _ _ _ _ _ _ _ _ _ _ _
      | exact ih1 _ _ _ _ _ _ _ _
      | exact ih2 _ _ _
      | exact impl_Fit.mono _ _ _ _ _
      | exact laws_eqArray.mono _ _ _ _ _
      | exact laws_eqIntS.mono _ _ _
      | exact laws_heldIntS.mono _ _ _
      | exact laws_markArray.mono _ _ _ _
      | exact laws_markIntS.mono _ _ _
      | exact laws_toArray.mono _ _ _
      | exact spec_Fit.mono _ _ _ _ _
      | exact LeO.none _
      | refine LeO.ite ?_ ?_
      | refine LeO.bind ?_ (fun _ => ?_)
theorem laws_FnExactFit.mono : ∀ a0 a1 a2 a3 k, LeO (laws_FnExactFit.f k a0 a1 a2 a3) (laws_FnExactFit.f (k + 1) a0 a1 a2 a3) := by
  intro a0 a1 a2 a3 k
  obtain ⟨ih0, ih1, ih2⟩ := laws_FnExactFit.mono_l k
  unfold laws_FnExactFit.f
  repeat' first
      | (with_reducible exact ih0 _ _ _ _ _ _ _ _ _ _ _ _ _)
      | (with_reducible exact ih1 _ _ _ _ _ _ _ _)
      | (with_reducible exact ih2 _ _ _)
      | (with_reducible exact impl_Fit.mono _ _ _ _ _)
      | (with_reducible exact laws_eqArray.mono _ _ _ _ _)
      | (with_reducible exact laws_eqIntS.mono _ _ _)
      | (with_reducible exact laws_heldIntS.mono _ _ _)
      | (with_reducible exact laws_markArray.mono _ _ _ _)
      | (with_reducible exact laws_markIntS.mono _ _ _)
      | (with_reducible exact laws_toArray.mono _ _ _)
      | (with_reducible exact spec_Fit.mono _ _ _ _ _)
      | (with_reducible exact LeO.refl _)
      | (with_reducible exact LeO.none _)
      | (with_reducible refine LeO.ite ?_ ?_)
      | (with_reducible refine LeO.bind ?_ (fun _ => ?_))
      | exact ih0 _ _ _ _ _ _ _ _ _ _ _ _ _
      | exact ih1 _ _ _ _ _ _ _ _
      | exact ih2 _ _ _
      | exact impl_Fit.mono _ _ _ _ _
      | exact laws_eqArray.mono _ _ _ _ _
      | exact laws_eqIntS.mono _ _ _
      | exact laws_heldIntS.mono _ _ _
      | exact laws_markArray.mono _ _ _ _
      | exact laws_markIntS.mono _ _ _
      | exact laws_toArray.mono _ _ _
      | exact spec_Fit.mono _ _ _ _ _
      | exact LeO.none _
      | refine LeO.ite ?_ ?_
      | refine LeO.bind ?_ (fun _ => ?_)
def laws_FnExactFit.T8 : Bool × List (List Nat × List Nat) := (true, [([], []), ([0], [0]), ([], []), ([2, 1], [2]), ([1, 3, 3], [1, 3]), ([4], [4]), ([5], [5]), ([5], [5]), ([6, 4, 0, 1, 2, 3, 4, 5, 6], [6]), ([7, 8, 0, 1, 2, 3, 4, 5, 6, 7, 8], [7])])
def laws_FnExactFit.B8 : List Nat := [0, 1, 0, 7, 15, 31, 63, 63, 127, 511]
theorem laws_FnExactFit.tab8 : rtab .any (opsOf Try.f8 8) = laws_FnExactFit.T8 := by kernel_rfl
theorem laws_FnExactFit.bits8 : waitsOk laws_FnExactFit.T8.2 laws_FnExactFit.B8 = true := by kernel_rfl
def laws_FnExactFit.T31 : Bool × List (List Nat × List Nat) := (true, [([], []), ([0], [0]), ([], []), ([2, 1], [2]), ([1, 3, 3], [1, 3]), ([4], [4]), ([5], [5]), ([5], [5]), ([6, 4, 0, 1, 2, 3, 4, 5, 6], [6]), ([7, 8, 0, 1, 2, 3, 4, 5, 6, 7, 8], [7])])
def laws_FnExactFit.B31 : List Nat := [0, 1, 0, 7, 15, 31, 63, 63, 127, 511]
theorem laws_FnExactFit.tab31 : rtab .any (opsOf Try.f8 31) = laws_FnExactFit.T31 := by kernel_rfl
theorem laws_FnExactFit.bits31 : waitsOk laws_FnExactFit.T31.2 laws_FnExactFit.B31 = true := by kernel_rfl
set_option maxHeartbeats 8000000 in
set_option maxRecDepth 100000 in
theorem laws_FnExactFit.calls (k : Nat) (A0_0 : Option Addr) (c0_0 : Nat) (l0_0 : List Int) (A0_1 : Option Addr) (c0_1 : Nat) (l0_1 : List Int) (A1_0 : Option Addr) (c1_0 : Nat) (l1_0 : List Int) (A1_1 : Option Addr) (c1_1 : Nat) (l1_1 : List Int) (r : Bool) (w : World) (hr0_0 : Kd.C (Kd.int .i64) w A0_0 l0_0.length l0_0) (hc0_0 : l0_0.length ≤ c0_0) (hr0_1 : Kd.C (Kd.int .i64) w A0_1 l0_1.length l0_1) (hc0_1 : l0_1.length ≤ c0_1) (hr1_0 : Kd.C (Kd.int .i64) w A1_0 l1_0.length l1_0) (hc1_0 : l1_0.length ≤ c1_0) (hr1_1 : Kd.C (Kd.int .i64) w A1_1 l1_1.length l1_1) (hc1_1 : l1_1.length ≤ c1_1) (h : laws_FnExactFit.f k l0_0 l0_1 l1_0 l1_1 = some r) (hT : r = true) :
    Calls Try.prog 8 #[.agg #[.slice A0_0 l0_0.length c0_0, .slice A0_1 l0_1.length c0_1], .agg #[.slice A1_0 l1_0.length c1_0, .slice A1_1 l1_1.length c1_1]] w fun e w' => e = .returned (.bool r) ∧ Below w.heap.size w w' := by
  have HT := Aside0.mk hT
  clear hT
  have hu37 := Try.underlying37
  have hu26 := Try.underlying26
  have HR0_0 := Aside0.mk hr0_0
  have HC0_0 := Aside0.mk hc0_0
  clear hr0_0 hc0_0
  have HR0_1 := Aside0.mk hr0_1
  have HC0_1 := Aside0.mk hc0_1
  clear hr0_1 hc0_1
  have HR1_0 := Aside0.mk hr1_0
  have HC1_0 := Aside0.mk hc1_0
  clear hr1_0 hc1_0
  have HR1_1 := Aside0.mk hr1_1
  have HC1_1 := Aside0.mk hc1_1
  clear hr1_1 hc1_1
  have HB := Aside0.mk (Below.refl w.heap.size w)
  have H : ((laws_szArray.f l0_0 l0_1 1048576).bind fun t199 => (if t199 < 0 then (some true) else ((laws_szArray.f l1_0 l1_1 t199).bind fun t200 => (if t200 < 0 then (some true) else ((laws_toArray.f k l0_0 l0_1).bind fun bt201 => ((laws_toArray.f k l1_0 l1_1).bind fun bt207 => ((spec_Fit.f k bt201.1 bt201.2 bt207.1 bt207.2).bind fun bt213 => ((laws_toArray.f k l0_0 l0_1).bind fun bt217 => ((laws_toArray.f k l1_0 l1_1).bind fun bt224 => ((impl_Fit.f k bt217.1 bt217.2 bt224.1 bt224.2).bind fun bt231 => ((laws_eqIntS.f k bt231.1 bt213.1).bind fun t235 => (if t235 = true then (laws_FnExactFit.j0 k bt213.1 bt213.2 bt231.1 bt231.2 (bt231.2 != bt213.2) l0_0 l0_1 l1_0 l1_1 bt217.1 bt217.2 bt224.1 bt224.2) else (laws_FnExactFit.j0 k bt213.1 bt213.2 bt231.1 bt231.2 true l0_0 l0_1 l1_0 l1_1 bt217.1 bt217.2 bt224.1 bt224.2))))))))))))) = some r := h
  clear h
  replace H := Option.bind_eq_some_iff.mp H
  obtain ⟨t199, A30, H⟩ := H
  replace H : (if t199 < 0 then (some true) else ((laws_szArray.f l1_0 l1_1 t199).bind fun t200 => (if t200 < 0 then (some true) else ((laws_toArray.f k l0_0 l0_1).bind fun bt201 => ((laws_toArray.f k l1_0 l1_1).bind fun bt207 => ((spec_Fit.f k bt201.1 bt201.2 bt207.1 bt207.2).bind fun bt213 => ((laws_toArray.f k l0_0 l0_1).bind fun bt217 => ((laws_toArray.f k l1_0 l1_1).bind fun bt224 => ((impl_Fit.f k bt217.1 bt217.2 bt224.1 bt224.2).bind fun bt231 => ((laws_eqIntS.f k bt231.1 bt213.1).bind fun t235 => (if t235 = true then (laws_FnExactFit.j0 k bt213.1 bt213.2 bt231.1 bt231.2 (bt231.2 != bt213.2) l0_0 l0_1 l1_0 l1_1 bt217.1 bt217.2 bt224.1 bt224.2) else (laws_FnExactFit.j0 k bt213.1 bt213.2 bt231.1 bt231.2 true l0_0 l0_1 l1_0 l1_1 bt217.1 bt217.2 bt224.1 bt224.2)))))))))))) = some r := H
  have A3 := Aside0.mk A30
  clear A30
  by_cases c4 : t199 < 0
  · rw [if_pos c4] at H
    have c4b0 : decide (t199 < 0) = true := decide_eq_true c4
    clear c4
    obtain rfl := Option.some.inj H
    go_enter Try.func8, Try.ntmps8
    go_wp2_with (first | ((with_reducible refine gate_dst (N := 2) rfl ?_); refine box_event ?hg (N := 2) ?hd (cs := #[.slice A0_0 l0_0.length c0_0, .slice A0_1 l0_1.length c0_1]) (t := 37) ?hr ?_; (case hd => rfl); (case hg => rfl); (case hr => first | (go_simp; done) | (go_simp; rfl)); intro gb197 hg w5 hbox hb; have n0_ := Aside0.mk (below_step (by repeat (first | (with_reducible first | exact HB.out | apply below_alloc | apply pw_below_drewN | apply below_drew1) | exact HB.out)) hb); have n1_ := Aside0.mk (hbox); have n2_ := Aside0.mk ((by rw [hg]; exact (below_size (by repeat (first | (with_reducible first | exact HB.out | apply below_alloc | apply pw_below_drewN | apply below_drew1) | exact HB.out))) : w.heap.size ≤ gb197)); have n3_ := Aside0.mk ((by rw [hg]; exact (below_size (by repeat (first | (with_reducible first | exact HB.out | apply below_alloc | apply pw_below_drewN | apply below_drew1) | exact HB.out))) : w.heap.size ≤ gb197)); clear HB; have HB := n0_; have BK197 := n1_; have GW197 := n2_; have GE197 := n3_; clear n0_ n1_ n2_ n3_; clear hb hbox hg) | ((with_reducible refine gate_dst (N := 3) rfl ?_); refine box_event ?hg (N := 3) ?hd (cs := #[.slice A1_0 l1_0.length c1_0, .slice A1_1 l1_1.length c1_1]) (t := 37) ?hr ?_; (case hd => rfl); (case hg => rfl); (case hr => first | (go_simp; done) | (go_simp; rfl)); intro gb198 hg w6 hbox hb; have n0_ := Aside0.mk (blk_below (g := gb197) (o := .cells #[.slice A0_0 l0_0.length c0_0, .slice A0_1 l0_1.length c0_1] 37 (0, 0)) (by (with_reducible repeat (first | refine blk_drewN ?_ _ | refine blk_drew ?_ | refine blk_alloc ?_ _)); exact BK197.out) hb); have n1_ := Aside0.mk (below_step (by repeat (first | (with_reducible first | exact HB.out | apply below_alloc | apply pw_below_drewN | apply below_drew1 | refine below_set ?_ GE197.out) | exact HB.out)) hb); have n2_ := Aside0.mk (hbox); have n3_ := Aside0.mk ((by rw [hg]; exact (below_size (by repeat (first | (with_reducible first | exact HB.out | apply below_alloc | apply pw_below_drewN | apply below_drew1 | refine below_set ?_ GE197.out) | exact HB.out))) : w.heap.size ≤ gb198)); have n4_ := Aside0.mk ((by rw [hg]; exact (below_size (by repeat (first | (with_reducible first | exact HB.out | apply below_alloc | apply pw_below_drewN | apply below_drew1 | refine below_set ?_ GE197.out) | exact HB.out))) : w.heap.size ≤ gb198)); have n5_ := Aside0.mk ((by rw [hg]; exact Nat.ne_of_lt (blk_lt (g := gb197) (o := .cells #[.slice A0_0 l0_0.length c0_0, .slice A0_1 l0_1.length c0_1] 37 (0, 0)) (by (with_reducible repeat (first | refine blk_drewN ?_ _ | refine blk_drew ?_ | refine blk_alloc ?_ _)); exact BK197.out)) : gb197 ≠ gb198)); have n6_ := Aside0.mk ((by rw [hg]; exact Nat.ne_of_gt (blk_lt (g := gb197) (o := .cells #[.slice A0_0 l0_0.length c0_0, .slice A0_1 l0_1.length c0_1] 37 (0, 0)) (by (with_reducible repeat (first | refine blk_drewN ?_ _ | refine blk_drew ?_ | refine blk_alloc ?_ _)); exact BK197.out)) : gb198 ≠ gb197)); clear BK197; clear HB; have BK197 := n0_; have HB := n1_; have BK198 := n2_; have GW198 := n3_; have GE198 := n4_; have NB197_198 := n5_; have NB198_197 := n6_; clear n0_ n1_ n2_ n3_ n4_ n5_ n6_; clear hb hbox hg; have hnb7 := NB197_198.out; have hnc7 := NB198_197.out; have hcz8_0 : w6.cell? ⟨gb197, 0, none⟩ = some (.slice A0_0 l0_0.length c0_0) := (blk_cell BK197.out 0).trans rfl; have hcz8_1 : w6.cell? ⟨gb197, 1, none⟩ = some (.slice A0_1 l0_1.length c0_1) := (blk_cell BK197.out 1).trans rfl; have hfz8_0 := blk_frozen BK197.out 0; have hfz8_1 := blk_frozen BK197.out 1) | ((with_reducible refine gate_callee (f := 23) rfl ?_); refine goesL_ (some 19) rfl rfl Try.func23 (by kernel_rfl) rfl #[.agg #[.slice A0_0 l0_0.length c0_0, .slice A0_1 l0_1.length c0_1], .int .i64 1048576] rfl (by (try simp only [List.map_toArray, List.map_cons, List.map_nil]); first | done | rfl | (simp only [List.length_drop, List.length_take]; rfl)) ?_; (with_reducible refine (laws_szArray.calls _ _ l0_0 _ _ l0_1 1048576 t199 _ ?side1 ?side2 ?side3 ?side4 A3.out).mono ?_); (case side1 => repeat (first | exact (Kd.C_below HR0_0.out HB.out) | (with_reducible refine Kd.C_alloc ?_ _) | (with_reducible refine Kd.C_drewN ?_ _) | (with_reducible refine Kd.C_drew ?_))); (case side2 => exact HC0_0.out); (case side3 => repeat (first | exact (Kd.C_below HR0_1.out HB.out) | (with_reducible refine Kd.C_alloc ?_ _) | (with_reducible refine Kd.C_drewN ?_ _) | (with_reducible refine Kd.C_drew ?_))); (case side4 => exact HC0_1.out); rintro e w9 ⟨rfl, hb⟩; refine ⟨_, rfl, ?_⟩; have n0_ := Aside0.mk (blk_below (g := gb197) (o := .cells #[.slice A0_0 l0_0.length c0_0, .slice A0_1 l0_1.length c0_1] 37 (0, 0)) (by (with_reducible repeat (first | refine blk_drewN ?_ _ | refine blk_drew ?_ | refine blk_alloc ?_ _)); exact BK197.out) hb); have n1_ := Aside0.mk (blk_below (g := gb198) (o := .cells #[.slice A1_0 l1_0.length c1_0, .slice A1_1 l1_1.length c1_1] 37 (0, 0)) (by (with_reducible repeat (first | refine blk_drewN ?_ _ | refine blk_drew ?_ | refine blk_alloc ?_ _)); exact BK198.out) hb); have n2_ := Aside0.mk (below_step (by repeat (first | (with_reducible first | exact HB.out | apply below_alloc | apply pw_below_drewN | apply below_drew1 | refine below_set ?_ GE197.out | refine below_set ?_ GE198.out) | exact HB.out)) hb); clear BK197; clear BK198; clear HB; have BK197 := n0_; have BK198 := n1_; have HB := n2_; clear n0_ n1_ n2_; (try clear hb); (try clear hb2); (try clear hk); (try clear hi)))
    go_ret
    exact ⟨by first | rfl | (simp [errW_none, errW_some] <;> rfl) | (simp [*, errW_none, errW_some] <;> rfl), by repeat (first | (with_reducible first | exact HB.out | apply below_alloc | apply pw_below_drewN | apply below_drew1 | refine below_set ?_ GE197.out | refine below_set ?_ GE198.out) | exact HB.out)⟩
  · rw [if_neg c4] at H
    have c4b0 : decide (t199 < 0) = false := decide_eq_false c4
    clear c4
    replace H := Option.bind_eq_some_iff.mp H
    obtain ⟨t200, A100, H⟩ := H
    replace H : (if t200 < 0 then (some true) else ((laws_toArray.f k l0_0 l0_1).bind fun bt201 => ((laws_toArray.f k l1_0 l1_1).bind fun bt207 => ((spec_Fit.f k bt201.1 bt201.2 bt207.1 bt207.2).bind fun bt213 => ((laws_toArray.f k l0_0 l0_1).bind fun bt217 => ((laws_toArray.f k l1_0 l1_1).bind fun bt224 => ((impl_Fit.f k bt217.1 bt217.2 bt224.1 bt224.2).bind fun bt231 => ((laws_eqIntS.f k bt231.1 bt213.1).bind fun t235 => (if t235 = true then (laws_FnExactFit.j0 k bt213.1 bt213.2 bt231.1 bt231.2 (bt231.2 != bt213.2) l0_0 l0_1 l1_0 l1_1 bt217.1 bt217.2 bt224.1 bt224.2) else (laws_FnExactFit.j0 k bt213.1 bt213.2 bt231.1 bt231.2 true l0_0 l0_1 l1_0 l1_1 bt217.1 bt217.2 bt224.1 bt224.2)))))))))) = some r := H
    have A10 := Aside0.mk A100
    clear A100
    by_cases c11 : t200 < 0
    · rw [if_pos c11] at H
      have c11b0 : decide (t200 < 0) = true := decide_eq_true c11
      clear c11
      obtain rfl := Option.some.inj H
      go_enter Try.func8, Try.ntmps8
      go_wp2_with (first | ((with_reducible refine gate_dst (N := 2) rfl ?_); refine box_event ?hg (N := 2) ?hd (cs := #[.slice A0_0 l0_0.length c0_0, .slice A0_1 l0_1.length c0_1]) (t := 37) ?hr ?_; (case hd => rfl); (case hg => rfl); (case hr => first | (go_simp; done) | (go_simp; rfl)); intro gb197 hg w12 hbox hb; have n0_ := Aside0.mk (below_step (by repeat (first | (with_reducible first | exact HB.out | apply below_alloc | apply pw_below_drewN | apply below_drew1) | exact HB.out)) hb); have n1_ := Aside0.mk (hbox); have n2_ := Aside0.mk ((by rw [hg]; exact (below_size (by repeat (first | (with_reducible first | exact HB.out | apply below_alloc | apply pw_below_drewN | apply below_drew1) | exact HB.out))) : w.heap.size ≤ gb197)); have n3_ := Aside0.mk ((by rw [hg]; exact (below_size (by repeat (first | (with_reducible first | exact HB.out | apply below_alloc | apply pw_below_drewN | apply below_drew1) | exact HB.out))) : w.heap.size ≤ gb197)); clear HB; have HB := n0_; have BK197 := n1_; have GW197 := n2_; have GE197 := n3_; clear n0_ n1_ n2_ n3_; clear hb hbox hg) | ((with_reducible refine gate_dst (N := 3) rfl ?_); refine box_event ?hg (N := 3) ?hd (cs := #[.slice A1_0 l1_0.length c1_0, .slice A1_1 l1_1.length c1_1]) (t := 37) ?hr ?_; (case hd => rfl); (case hg => rfl); (case hr => first | (go_simp; done) | (go_simp; rfl)); intro gb198 hg w13 hbox hb; have n0_ := Aside0.mk (blk_below (g := gb197) (o := .cells #[.slice A0_0 l0_0.length c0_0, .slice A0_1 l0_1.length c0_1] 37 (0, 0)) (by (with_reducible repeat (first | refine blk_drewN ?_ _ | refine blk_drew ?_ | refine blk_alloc ?_ _)); exact BK197.out) hb); have n1_ := Aside0.mk (below_step (by repeat (first | (with_reducible first | exact HB.out | apply below_alloc | apply pw_below_drewN | apply below_drew1 | refine below_set ?_ GE197.out) | exact HB.out)) hb); have n2_ := Aside0.mk (hbox); have n3_ := Aside0.mk ((by rw [hg]; exact (below_size (by repeat (first | (with_reducible first | exact HB.out | apply below_alloc | apply pw_below_drewN | apply below_drew1 | refine below_set ?_ GE197.out) | exact HB.out))) : w.heap.size ≤ gb198)); have n4_ := Aside0.mk ((by rw [hg]; exact (below_size (by repeat (first | (with_reducible first | exact HB.out | apply below_alloc | apply pw_below_drewN | apply below_drew1 | refine below_set ?_ GE197.out) | exact HB.out))) : w.heap.size ≤ gb198)); have n5_ := Aside0.mk ((by rw [hg]; exact Nat.ne_of_lt (blk_lt (g := gb197) (o := .cells #[.slice A0_0 l0_0.length c0_0, .slice A0_1 l0_1.length c0_1] 37 (0, 0)) (by (with_reducible repeat (first | refine blk_drewN ?_ _ | refine blk_drew ?_ | refine blk_alloc ?_ _)); exact BK197.out)) : gb197 ≠ gb198)); have n6_ := Aside0.mk ((by rw [hg]; exact Nat.ne_of_gt (blk_lt (g := gb197) (o := .cells #[.slice A0_0 l0_0.length c0_0, .slice A0_1 l0_1.length c0_1] 37 (0, 0)) (by (with_reducible repeat (first | refine blk_drewN ?_ _ | refine blk_drew ?_ | refine blk_alloc ?_ _)); exact BK197.out)) : gb198 ≠ gb197)); clear BK197; clear HB; have BK197 := n0_; have HB := n1_; have BK198 := n2_; have GW198 := n3_; have GE198 := n4_; have NB197_198 := n5_; have NB198_197 := n6_; clear n0_ n1_ n2_ n3_ n4_ n5_ n6_; clear hb hbox hg; have hnb14 := NB197_198.out; have hnc14 := NB198_197.out; have hcz15_0 : w13.cell? ⟨gb197, 0, none⟩ = some (.slice A0_0 l0_0.length c0_0) := (blk_cell BK197.out 0).trans rfl; have hcz15_1 : w13.cell? ⟨gb197, 1, none⟩ = some (.slice A0_1 l0_1.length c0_1) := (blk_cell BK197.out 1).trans rfl; have hfz15_0 := blk_frozen BK197.out 0; have hfz15_1 := blk_frozen BK197.out 1) | ((with_reducible refine gate_callee (f := 23) rfl ?_); refine goesL_ (some 19) rfl rfl Try.func23 (by kernel_rfl) rfl #[.agg #[.slice A0_0 l0_0.length c0_0, .slice A0_1 l0_1.length c0_1], .int .i64 1048576] rfl (by (try simp only [List.map_toArray, List.map_cons, List.map_nil]); first | done | rfl | (simp only [List.length_drop, List.length_take]; rfl)) ?_; (with_reducible refine (laws_szArray.calls _ _ l0_0 _ _ l0_1 1048576 t199 _ ?side1 ?side2 ?side3 ?side4 A3.out).mono ?_); (case side1 => repeat (first | exact (Kd.C_below HR0_0.out HB.out) | (with_reducible refine Kd.C_alloc ?_ _) | (with_reducible refine Kd.C_drewN ?_ _) | (with_reducible refine Kd.C_drew ?_))); (case side2 => exact HC0_0.out); (case side3 => repeat (first | exact (Kd.C_below HR0_1.out HB.out) | (with_reducible refine Kd.C_alloc ?_ _) | (with_reducible refine Kd.C_drewN ?_ _) | (with_reducible refine Kd.C_drew ?_))); (case side4 => exact HC0_1.out); rintro e w16 ⟨rfl, hb⟩; refine ⟨_, rfl, ?_⟩; have n0_ := Aside0.mk (blk_below (g := gb197) (o := .cells #[.slice A0_0 l0_0.length c0_0, .slice A0_1 l0_1.length c0_1] 37 (0, 0)) (by (with_reducible repeat (first | refine blk_drewN ?_ _ | refine blk_drew ?_ | refine blk_alloc ?_ _)); exact BK197.out) hb); have n1_ := Aside0.mk (blk_below (g := gb198) (o := .cells #[.slice A1_0 l1_0.length c1_0, .slice A1_1 l1_1.length c1_1] 37 (0, 0)) (by (with_reducible repeat (first | refine blk_drewN ?_ _ | refine blk_drew ?_ | refine blk_alloc ?_ _)); exact BK198.out) hb); have n2_ := Aside0.mk (below_step (by repeat (first | (with_reducible first | exact HB.out | apply below_alloc | apply pw_below_drewN | apply below_drew1 | refine below_set ?_ GE197.out | refine below_set ?_ GE198.out) | exact HB.out)) hb); clear BK197; clear BK198; clear HB; have BK197 := n0_; have BK198 := n1_; have HB := n2_; clear n0_ n1_ n2_; (try clear hb); (try clear hb2); (try clear hk); (try clear hi); have hcz17_0 : w16.cell? ⟨gb198, 0, none⟩ = some (.slice A1_0 l1_0.length c1_0) := (blk_cell BK198.out 0).trans rfl; have hcz17_1 : w16.cell? ⟨gb198, 1, none⟩ = some (.slice A1_1 l1_1.length c1_1) := (blk_cell BK198.out 1).trans rfl; have hfz17_0 := blk_frozen BK198.out 0; have hfz17_1 := blk_frozen BK198.out 1) | ((with_reducible refine gate_callee (f := 23) rfl ?_); refine goesL_ (some 24) rfl rfl Try.func23 (by kernel_rfl) rfl #[.agg #[.slice A1_0 l1_0.length c1_0, .slice A1_1 l1_1.length c1_1], .int .i64 t199] rfl (by (try simp only [List.map_toArray, List.map_cons, List.map_nil]); first | done | rfl | (simp only [List.length_drop, List.length_take]; rfl)) ?_; (with_reducible refine (laws_szArray.calls _ _ l1_0 _ _ l1_1 t199 t200 _ ?side1 ?side2 ?side3 ?side4 A10.out).mono ?_); (case side1 => repeat (first | exact (Kd.C_below HR1_0.out HB.out) | (with_reducible refine Kd.C_alloc ?_ _) | (with_reducible refine Kd.C_drewN ?_ _) | (with_reducible refine Kd.C_drew ?_))); (case side2 => exact HC1_0.out); (case side3 => repeat (first | exact (Kd.C_below HR1_1.out HB.out) | (with_reducible refine Kd.C_alloc ?_ _) | (with_reducible refine Kd.C_drewN ?_ _) | (with_reducible refine Kd.C_drew ?_))); (case side4 => exact HC1_1.out); rintro e w18 ⟨rfl, hb⟩; refine ⟨_, rfl, ?_⟩; have n0_ := Aside0.mk (blk_below (g := gb197) (o := .cells #[.slice A0_0 l0_0.length c0_0, .slice A0_1 l0_1.length c0_1] 37 (0, 0)) (by (with_reducible repeat (first | refine blk_drewN ?_ _ | refine blk_drew ?_ | refine blk_alloc ?_ _)); exact BK197.out) hb); have n1_ := Aside0.mk (blk_below (g := gb198) (o := .cells #[.slice A1_0 l1_0.length c1_0, .slice A1_1 l1_1.length c1_1] 37 (0, 0)) (by (with_reducible repeat (first | refine blk_drewN ?_ _ | refine blk_drew ?_ | refine blk_alloc ?_ _)); exact BK198.out) hb); have n2_ := Aside0.mk (below_step (by repeat (first | (with_reducible first | exact HB.out | apply below_alloc | apply pw_below_drewN | apply below_drew1 | refine below_set ?_ GE197.out | refine below_set ?_ GE198.out) | exact HB.out)) hb); clear BK197; clear BK198; clear HB; have BK197 := n0_; have BK198 := n1_; have HB := n2_; clear n0_ n1_ n2_; (try clear hb); (try clear hb2); (try clear hk); (try clear hi)))
      go_ret
      exact ⟨by first | rfl | (simp [errW_none, errW_some] <;> rfl) | (simp [*, errW_none, errW_some] <;> rfl), by repeat (first | (with_reducible first | exact HB.out | apply below_alloc | apply pw_below_drewN | apply below_drew1 | refine below_set ?_ GE197.out | refine below_set ?_ GE198.out) | exact HB.out)⟩
    · rw [if_neg c11] at H
      have c11b0 : decide (t200 < 0) = false := decide_eq_false c11
      clear c11
      replace H := Option.bind_eq_some_iff.mp H
      obtain ⟨⟨t201, t204⟩, A190, H⟩ := H
      replace H : ((laws_toArray.f k l1_0 l1_1).bind fun bt207 => ((spec_Fit.f k t201 t204 bt207.1 bt207.2).bind fun bt213 => ((laws_toArray.f k l0_0 l0_1).bind fun bt217 => ((laws_toArray.f k l1_0 l1_1).bind fun bt224 => ((impl_Fit.f k bt217.1 bt217.2 bt224.1 bt224.2).bind fun bt231 => ((laws_eqIntS.f k bt231.1 bt213.1).bind fun t235 => (if t235 = true then (laws_FnExactFit.j0 k bt213.1 bt213.2 bt231.1 bt231.2 (bt231.2 != bt213.2) l0_0 l0_1 l1_0 l1_1 bt217.1 bt217.2 bt224.1 bt224.2) else (laws_FnExactFit.j0 k bt213.1 bt213.2 bt231.1 bt231.2 true l0_0 l0_1 l1_0 l1_1 bt217.1 bt217.2 bt224.1 bt224.2)))))))) = some r := H
      have A19 := Aside0.mk A190
      clear A190
      replace H := Option.bind_eq_some_iff.mp H
      obtain ⟨⟨t207, t210⟩, A200, H⟩ := H
      replace H : ((spec_Fit.f k t201 t204 t207 t210).bind fun bt213 => ((laws_toArray.f k l0_0 l0_1).bind fun bt217 => ((laws_toArray.f k l1_0 l1_1).bind fun bt224 => ((impl_Fit.f k bt217.1 bt217.2 bt224.1 bt224.2).bind fun bt231 => ((laws_eqIntS.f k bt231.1 bt213.1).bind fun t235 => (if t235 = true then (laws_FnExactFit.j0 k bt213.1 bt213.2 bt231.1 bt231.2 (bt231.2 != bt213.2) l0_0 l0_1 l1_0 l1_1 bt217.1 bt217.2 bt224.1 bt224.2) else (laws_FnExactFit.j0 k bt213.1 bt213.2 bt231.1 bt231.2 true l0_0 l0_1 l1_0 l1_1 bt217.1 bt217.2 bt224.1 bt224.2))))))) = some r := H
      have A20 := Aside0.mk A200
      clear A200
      replace H := Option.bind_eq_some_iff.mp H
      obtain ⟨⟨t213, t216⟩, A210, H⟩ := H
      replace H : ((laws_toArray.f k l0_0 l0_1).bind fun bt217 => ((laws_toArray.f k l1_0 l1_1).bind fun bt224 => ((impl_Fit.f k bt217.1 bt217.2 bt224.1 bt224.2).bind fun bt231 => ((laws_eqIntS.f k bt231.1 t213).bind fun t235 => (if t235 = true then (laws_FnExactFit.j0 k t213 t216 bt231.1 bt231.2 (bt231.2 != t216) l0_0 l0_1 l1_0 l1_1 bt217.1 bt217.2 bt224.1 bt224.2) else (laws_FnExactFit.j0 k t213 t216 bt231.1 bt231.2 true l0_0 l0_1 l1_0 l1_1 bt217.1 bt217.2 bt224.1 bt224.2)))))) = some r := H
      have A21 := Aside0.mk A210
      clear A210
      replace H := Option.bind_eq_some_iff.mp H
      obtain ⟨⟨t217, t220⟩, A220, H⟩ := H
      replace H : ((laws_toArray.f k l1_0 l1_1).bind fun bt224 => ((impl_Fit.f k t217 t220 bt224.1 bt224.2).bind fun bt231 => ((laws_eqIntS.f k bt231.1 t213).bind fun t235 => (if t235 = true then (laws_FnExactFit.j0 k t213 t216 bt231.1 bt231.2 (bt231.2 != t216) l0_0 l0_1 l1_0 l1_1 t217 t220 bt224.1 bt224.2) else (laws_FnExactFit.j0 k t213 t216 bt231.1 bt231.2 true l0_0 l0_1 l1_0 l1_1 t217 t220 bt224.1 bt224.2))))) = some r := H
      have A22 := Aside0.mk A220
      clear A220
      replace H := Option.bind_eq_some_iff.mp H
      obtain ⟨⟨t224, t227⟩, A230, H⟩ := H
      replace H : ((impl_Fit.f k t217 t220 t224 t227).bind fun bt231 => ((laws_eqIntS.f k bt231.1 t213).bind fun t235 => (if t235 = true then (laws_FnExactFit.j0 k t213 t216 bt231.1 bt231.2 (bt231.2 != t216) l0_0 l0_1 l1_0 l1_1 t217 t220 t224 t227) else (laws_FnExactFit.j0 k t213 t216 bt231.1 bt231.2 true l0_0 l0_1 l1_0 l1_1 t217 t220 t224 t227)))) = some r := H
      have A23 := Aside0.mk A230
      clear A230
      replace H := Option.bind_eq_some_iff.mp H
      obtain ⟨⟨t231, t234⟩, A240, H⟩ := H
      replace H : ((laws_eqIntS.f k t231 t213).bind fun t235 => (if t235 = true then (laws_FnExactFit.j0 k t213 t216 t231 t234 (t234 != t216) l0_0 l0_1 l1_0 l1_1 t217 t220 t224 t227) else (laws_FnExactFit.j0 k t213 t216 t231 t234 true l0_0 l0_1 l1_0 l1_1 t217 t220 t224 t227))) = some r := H
      have A24 := Aside0.mk A240
      clear A240
      have HC25 := Aside0.mk H
      clear H
      go_enter Try.func8, Try.ntmps8
      try go_wp2_with (first | ((with_reducible refine gate_dst (N := 2) rfl ?_); refine box_event ?hg (N := 2) ?hd (cs := #[.slice A0_0 l0_0.length c0_0, .slice A0_1 l0_1.length c0_1]) (t := 37) ?hr ?_; (case hd => rfl); (case hg => rfl); (case hr => first | (go_simp; done) | (go_simp; rfl)); intro gb197 hg w26 hbox hb; have n0_ := Aside0.mk (below_step (by repeat (first | (with_reducible first | exact HB.out | apply below_alloc | apply pw_below_drewN | apply below_drew1) | exact HB.out)) hb); have n1_ := Aside0.mk (hbox); have n2_ := Aside0.mk ((by rw [hg]; exact (below_size (by repeat (first | (with_reducible first | exact HB.out | apply below_alloc | apply pw_below_drewN | apply below_drew1) | exact HB.out))) : w.heap.size ≤ gb197)); have n3_ := Aside0.mk ((by rw [hg]; exact (below_size (by repeat (first | (with_reducible first | exact HB.out | apply below_alloc | apply pw_below_drewN | apply below_drew1) | exact HB.out))) : w.heap.size ≤ gb197)); clear HB; have HB := n0_; have BK197 := n1_; have GW197 := n2_; have GE197 := n3_; clear n0_ n1_ n2_ n3_; clear hb hbox hg) | ((with_reducible refine gate_dst (N := 3) rfl ?_); refine box_event ?hg (N := 3) ?hd (cs := #[.slice A1_0 l1_0.length c1_0, .slice A1_1 l1_1.length c1_1]) (t := 37) ?hr ?_; (case hd => rfl); (case hg => rfl); (case hr => first | (go_simp; done) | (go_simp; rfl)); intro gb198 hg w27 hbox hb; have n0_ := Aside0.mk (blk_below (g := gb197) (o := .cells #[.slice A0_0 l0_0.length c0_0, .slice A0_1 l0_1.length c0_1] 37 (0, 0)) (by (with_reducible repeat (first | refine blk_drewN ?_ _ | refine blk_drew ?_ | refine blk_alloc ?_ _)); exact BK197.out) hb); have n1_ := Aside0.mk (below_step (by repeat (first | (with_reducible first | exact HB.out | apply below_alloc | apply pw_below_drewN | apply below_drew1 | refine below_set ?_ GE197.out) | exact HB.out)) hb); have n2_ := Aside0.mk (hbox); have n3_ := Aside0.mk ((by rw [hg]; exact (below_size (by repeat (first | (with_reducible first | exact HB.out | apply below_alloc | apply pw_below_drewN | apply below_drew1 | refine below_set ?_ GE197.out) | exact HB.out))) : w.heap.size ≤ gb198)); have n4_ := Aside0.mk ((by rw [hg]; exact (below_size (by repeat (first | (with_reducible first | exact HB.out | apply below_alloc | apply pw_below_drewN | apply below_drew1 | refine below_set ?_ GE197.out) | exact HB.out))) : w.heap.size ≤ gb198)); have n5_ := Aside0.mk ((by rw [hg]; exact Nat.ne_of_lt (blk_lt (g := gb197) (o := .cells #[.slice A0_0 l0_0.length c0_0, .slice A0_1 l0_1.length c0_1] 37 (0, 0)) (by (with_reducible repeat (first | refine blk_drewN ?_ _ | refine blk_drew ?_ | refine blk_alloc ?_ _)); exact BK197.out)) : gb197 ≠ gb198)); have n6_ := Aside0.mk ((by rw [hg]; exact Nat.ne_of_gt (blk_lt (g := gb197) (o := .cells #[.slice A0_0 l0_0.length c0_0, .slice A0_1 l0_1.length c0_1] 37 (0, 0)) (by (with_reducible repeat (first | refine blk_drewN ?_ _ | refine blk_drew ?_ | refine blk_alloc ?_ _)); exact BK197.out)) : gb198 ≠ gb197)); clear BK197; clear HB; have BK197 := n0_; have HB := n1_; have BK198 := n2_; have GW198 := n3_; have GE198 := n4_; have NB197_198 := n5_; have NB198_197 := n6_; clear n0_ n1_ n2_ n3_ n4_ n5_ n6_; clear hb hbox hg; have hnb28 := NB197_198.out; have hnc28 := NB198_197.out; have hcz29_0 : w27.cell? ⟨gb197, 0, none⟩ = some (.slice A0_0 l0_0.length c0_0) := (blk_cell BK197.out 0).trans rfl; have hcz29_1 : w27.cell? ⟨gb197, 1, none⟩ = some (.slice A0_1 l0_1.length c0_1) := (blk_cell BK197.out 1).trans rfl; have hfz29_0 := blk_frozen BK197.out 0; have hfz29_1 := blk_frozen BK197.out 1) | ((with_reducible refine gate_callee (f := 23) rfl ?_); refine goesL_ (some 19) rfl rfl Try.func23 (by kernel_rfl) rfl #[.agg #[.slice A0_0 l0_0.length c0_0, .slice A0_1 l0_1.length c0_1], .int .i64 1048576] rfl (by (try simp only [List.map_toArray, List.map_cons, List.map_nil]); first | done | rfl | (simp only [List.length_drop, List.length_take]; rfl)) ?_; (with_reducible refine (laws_szArray.calls _ _ l0_0 _ _ l0_1 1048576 t199 _ ?side1 ?side2 ?side3 ?side4 A3.out).mono ?_); (case side1 => repeat (first | exact (Kd.C_below HR0_0.out HB.out) | (with_reducible refine Kd.C_alloc ?_ _) | (with_reducible refine Kd.C_drewN ?_ _) | (with_reducible refine Kd.C_drew ?_))); (case side2 => exact HC0_0.out); (case side3 => repeat (first | exact (Kd.C_below HR0_1.out HB.out) | (with_reducible refine Kd.C_alloc ?_ _) | (with_reducible refine Kd.C_drewN ?_ _) | (with_reducible refine Kd.C_drew ?_))); (case side4 => exact HC0_1.out); rintro e w30 ⟨rfl, hb⟩; refine ⟨_, rfl, ?_⟩; have n0_ := Aside0.mk (blk_below (g := gb197) (o := .cells #[.slice A0_0 l0_0.length c0_0, .slice A0_1 l0_1.length c0_1] 37 (0, 0)) (by (with_reducible repeat (first | refine blk_drewN ?_ _ | refine blk_drew ?_ | refine blk_alloc ?_ _)); exact BK197.out) hb); have n1_ := Aside0.mk (blk_below (g := gb198) (o := .cells #[.slice A1_0 l1_0.length c1_0, .slice A1_1 l1_1.length c1_1] 37 (0, 0)) (by (with_reducible repeat (first | refine blk_drewN ?_ _ | refine blk_drew ?_ | refine blk_alloc ?_ _)); exact BK198.out) hb); have n2_ := Aside0.mk (below_step (by repeat (first | (with_reducible first | exact HB.out | apply below_alloc | apply pw_below_drewN | apply below_drew1 | refine below_set ?_ GE197.out | refine below_set ?_ GE198.out) | exact HB.out)) hb); clear BK197; clear BK198; clear HB; have BK197 := n0_; have BK198 := n1_; have HB := n2_; clear n0_ n1_ n2_; (try clear hb); (try clear hb2); (try clear hk); (try clear hi); have hcz31_0 : w30.cell? ⟨gb198, 0, none⟩ = some (.slice A1_0 l1_0.length c1_0) := (blk_cell BK198.out 0).trans rfl; have hcz31_1 : w30.cell? ⟨gb198, 1, none⟩ = some (.slice A1_1 l1_1.length c1_1) := (blk_cell BK198.out 1).trans rfl; have hfz31_0 := blk_frozen BK198.out 0; have hfz31_1 := blk_frozen BK198.out 1) | ((with_reducible refine gate_callee (f := 23) rfl ?_); refine goesL_ (some 24) rfl rfl Try.func23 (by kernel_rfl) rfl #[.agg #[.slice A1_0 l1_0.length c1_0, .slice A1_1 l1_1.length c1_1], .int .i64 t199] rfl (by (try simp only [List.map_toArray, List.map_cons, List.map_nil]); first | done | rfl | (simp only [List.length_drop, List.length_take]; rfl)) ?_; (with_reducible refine (laws_szArray.calls _ _ l1_0 _ _ l1_1 t199 t200 _ ?side1 ?side2 ?side3 ?side4 A10.out).mono ?_); (case side1 => repeat (first | exact (Kd.C_below HR1_0.out HB.out) | (with_reducible refine Kd.C_alloc ?_ _) | (with_reducible refine Kd.C_drewN ?_ _) | (with_reducible refine Kd.C_drew ?_))); (case side2 => exact HC1_0.out); (case side3 => repeat (first | exact (Kd.C_below HR1_1.out HB.out) | (with_reducible refine Kd.C_alloc ?_ _) | (with_reducible refine Kd.C_drewN ?_ _) | (with_reducible refine Kd.C_drew ?_))); (case side4 => exact HC1_1.out); rintro e w32 ⟨rfl, hb⟩; refine ⟨_, rfl, ?_⟩; have n0_ := Aside0.mk (blk_below (g := gb197) (o := .cells #[.slice A0_0 l0_0.length c0_0, .slice A0_1 l0_1.length c0_1] 37 (0, 0)) (by (with_reducible repeat (first | refine blk_drewN ?_ _ | refine blk_drew ?_ | refine blk_alloc ?_ _)); exact BK197.out) hb); have n1_ := Aside0.mk (blk_below (g := gb198) (o := .cells #[.slice A1_0 l1_0.length c1_0, .slice A1_1 l1_1.length c1_1] 37 (0, 0)) (by (with_reducible repeat (first | refine blk_drewN ?_ _ | refine blk_drew ?_ | refine blk_alloc ?_ _)); exact BK198.out) hb); have n2_ := Aside0.mk (below_step (by repeat (first | (with_reducible first | exact HB.out | apply below_alloc | apply pw_below_drewN | apply below_drew1 | refine below_set ?_ GE197.out | refine below_set ?_ GE198.out) | exact HB.out)) hb); clear BK197; clear BK198; clear HB; have BK197 := n0_; have BK198 := n1_; have HB := n2_; clear n0_ n1_ n2_; (try clear hb); (try clear hb2); (try clear hk); (try clear hi)))
      have n0_ := Aside0.mk (blk_drew BK197.out)
      have n1_ := Aside0.mk (blk_drew BK198.out)
      have n2_ := Aside0.mk (below_drew1 HB.out)
      clear BK197
      clear BK198
      clear HB
      have BK197 := n0_
      have BK198 := n1_
      have HB := n2_
      clear n0_ n1_ n2_
      refine start_ (n := 10) (S := fun w' => w'.cell? ⟨gb197, 0, none⟩ = some (.slice A0_0 l0_0.length c0_0) ∧ w'.cell? ⟨gb197, 1, none⟩ = some (.slice A0_1 l0_1.length c0_1) ∧ w'.cell? ⟨gb198, 0, none⟩ = some (.slice A1_0 l1_0.length c1_0) ∧ w'.cell? ⟨gb198, 1, none⟩ = some (.slice A1_1 l1_1.length c1_1)) (ds := []) #[false, false, false, false, false, false, false, false, false, false] (by kernel_rfl) rfl rfl ⟨(blk_cell BK197.out 0).trans rfl, (blk_cell BK197.out 1).trans rfl, (blk_cell BK198.out 0).trans rfl, (blk_cell BK198.out 1).trans rfl⟩ (fun hHeld => ?_); refine with_tabW laws_FnExactFit.tab8 laws_FnExactFit.bits8 (fun HT_ HW_ => ?_)
      generalize w32.drew = w33 at BK197 BK198 HB hHeld ⊢
      refine take_ (i := 0) (N := some 28) (v := ?_) (a' := ?_) #[true, false, false, false, false, false, false, false, false, false] rfl rfl (take_ofW HT_.out HW_.out (by kernel_rfl)) (fun _ _ _ h => h) (Or.inl ⟨by rfl, ?_⟩) hHeld ?_ ?_
      rotate_left
      · rintro w' ⟨s0, s1, s2, s3⟩
        go_simp
        with_reducible rfl
      rotate_left
      · simp only [Act.put, List.setIfInBounds_toArray, List.set_cons_zero, List.set_cons_succ, i64_w, i32_w]
        rfl
      refine take_ (i := 2) (N := some 30) (v := ?_) (a' := ?_) #[true, false, true, false, false, false, false, false, false, false] rfl rfl (take_ofW HT_.out HW_.out (by kernel_rfl)) (fun _ _ _ h => h) (Or.inl ⟨by rfl, ?_⟩) hHeld ?_ ?_
      rotate_left
      · rintro w' ⟨s0, s1, s2, s3⟩
        go_simp
        with_reducible rfl
      rotate_left
      · simp only [Act.put, List.setIfInBounds_toArray, List.set_cons_zero, List.set_cons_succ, i64_w, i32_w]
        rfl
      refine one_ (i := 1) (N := some 29) #[true, true, true, false, false, false, false, false, false, false] rfl rfl (one_of HT_.out (by kernel_rfl)) (by decide) (fun K hK => ?_)
      refine goes_ Try.func25 (by kernel_rfl) rfl #[.agg #[.slice A0_0 l0_0.length c0_0, .slice A0_1 l0_1.length c0_1]] (by rfl) rfl rfl (by (try simp only [List.map_toArray, List.map_cons, List.map_nil]); first | done | rfl | (simp only [List.length_drop, List.length_take]; rfl)) ?_
      with_reducible refine (laws_toArray.calls k _ _ l0_0 _ _ l0_1 t201 t204 _ ?side1 ?side2 ?side3 ?side4 A19.out).mono ?_
      (case side1 => repeat (first | exact (Kd.C_below HR0_0.out HB.out) | (with_reducible refine Kd.C_alloc ?_ _) | (with_reducible refine Kd.C_drewN ?_ _) | (with_reducible refine Kd.C_drew ?_)))
      (case side2 => exact HC0_0.out)
      (case side3 => repeat (first | exact (Kd.C_below HR0_1.out HB.out) | (with_reducible refine Kd.C_alloc ?_ _) | (with_reducible refine Kd.C_drewN ?_ _) | (with_reducible refine Kd.C_drew ?_)))
      (case side4 => exact HC0_1.out)
      rintro e w34 ⟨v202, v205, rfl, ho0, ho1, hb⟩
      refine ⟨_, rfl, ?_⟩
      have n0_ := Aside0.mk (Kd.R_lower ho0 (below_size (by repeat (first | (with_reducible first | exact HB.out | apply below_alloc | apply pw_below_drewN | apply below_drew1 | refine below_set ?_ GE197.out | refine below_set ?_ GE198.out) | exact HB.out))))
      have n1_ := Aside0.mk (Kd.R_lower ho1 (below_size (by repeat (first | (with_reducible first | exact HB.out | apply below_alloc | apply pw_below_drewN | apply below_drew1 | refine below_set ?_ GE197.out | refine below_set ?_ GE198.out) | exact HB.out))))
      have n2_ := Aside0.mk (blk_below (g := gb197) (o := .cells #[.slice A0_0 l0_0.length c0_0, .slice A0_1 l0_1.length c0_1] 37 (0, 0)) (by (with_reducible repeat (first | refine blk_drewN ?_ _ | refine blk_drew ?_ | refine blk_alloc ?_ _)); exact BK197.out) hb)
      have n3_ := Aside0.mk (blk_below (g := gb198) (o := .cells #[.slice A1_0 l1_0.length c1_0, .slice A1_1 l1_1.length c1_1] 37 (0, 0)) (by (with_reducible repeat (first | refine blk_drewN ?_ _ | refine blk_drew ?_ | refine blk_alloc ?_ _)); exact BK198.out) hb)
      have n4_ := Aside0.mk (below_step (by repeat (first | (with_reducible first | exact HB.out | apply below_alloc | apply pw_below_drewN | apply below_drew1 | refine below_set ?_ GE197.out | refine below_set ?_ GE198.out) | exact HB.out)) hb)
      clear BK197
      clear BK198
      clear HB
      have HO203 := n0_
      have HO206 := n1_
      have BK197 := n2_
      have BK198 := n3_
      have HB := n4_
      clear n0_ n1_ n2_ n3_ n4_
      (try clear hb)
      (try clear hb2)
      (try clear hk)
      (try clear hi)
      (try clear ho0)
      (try clear ho1)
      refine hK.out _ _ ⟨(blk_cell BK197.out 0).trans rfl, (blk_cell BK197.out 1).trans rfl, (blk_cell BK198.out 0).trans rfl, (blk_cell BK198.out 1).trans rfl⟩ (fun hHeld => ?_)
      clear hK K
      refine norm_ (a' := ?_) ?_ ?_
      rotate_left
      · show Act.put _ (some 29) _ = _
        simp only [Act.put, List.setIfInBounds_toArray, List.set_cons_zero, List.set_cons_succ, i64_w, i32_w]
        rfl
      refine one_ (i := 3) (N := some 31) #[true, true, true, true, false, false, false, false, false, false] rfl rfl (one_of HT_.out (by kernel_rfl)) (by decide) (fun K hK => ?_)
      refine goes_ Try.func25 (by kernel_rfl) rfl #[.agg #[.slice A1_0 l1_0.length c1_0, .slice A1_1 l1_1.length c1_1]] (by rfl) rfl rfl (by (try simp only [List.map_toArray, List.map_cons, List.map_nil]); first | done | rfl | (simp only [List.length_drop, List.length_take]; rfl)) ?_
      with_reducible refine (laws_toArray.calls k _ _ l1_0 _ _ l1_1 t207 t210 _ ?side1 ?side2 ?side3 ?side4 A20.out).mono ?_
      (case side1 => repeat (first | exact (Kd.C_below HR1_0.out HB.out) | (with_reducible refine Kd.C_alloc ?_ _) | (with_reducible refine Kd.C_drewN ?_ _) | (with_reducible refine Kd.C_drew ?_)))
      (case side2 => exact HC1_0.out)
      (case side3 => repeat (first | exact (Kd.C_below HR1_1.out HB.out) | (with_reducible refine Kd.C_alloc ?_ _) | (with_reducible refine Kd.C_drewN ?_ _) | (with_reducible refine Kd.C_drew ?_)))
      (case side4 => exact HC1_1.out)
      rintro e w35 ⟨v208, v211, rfl, ho0, ho1, hb⟩
      refine ⟨_, rfl, ?_⟩
      have n0_ := Aside0.mk (Kd.R_mono (Kd.R_told (Kd.R_told (Kd.R_old (by (with_reducible repeat (first | apply Kd.R_alloc | apply Kd.R_drewN | apply Kd.R_drew)); exact HO203.out) hb) (Kd.R_base ho0)) (Kd.R_base ho1)) (fun _ h_ => h_.1))
      have n1_ := Aside0.mk (Kd.R_mono (Kd.R_told (Kd.R_told (Kd.R_old (by (with_reducible repeat (first | apply Kd.R_alloc | apply Kd.R_drewN | apply Kd.R_drew)); exact HO206.out) hb) (Kd.R_base ho0)) (Kd.R_base ho1)) (fun _ h_ => h_.1))
      have n2_ := Aside0.mk (Kd.R_lower (Kd.R_new' (Kd.R_new' ho0 (Kd.R_lt (by (with_reducible repeat (first | apply Kd.R_alloc | apply Kd.R_drewN | apply Kd.R_drew)); exact HO203.out))) (Kd.R_lt (by (with_reducible repeat (first | apply Kd.R_alloc | apply Kd.R_drewN | apply Kd.R_drew)); exact HO206.out))) (below_size (by repeat (first | (with_reducible first | exact HB.out | apply below_alloc | apply pw_below_drewN | apply below_drew1 | refine below_set ?_ GE197.out | refine below_set ?_ GE198.out) | exact HB.out))))
      have n3_ := Aside0.mk (Kd.R_lower (Kd.R_new' (Kd.R_new' ho1 (Kd.R_lt (by (with_reducible repeat (first | apply Kd.R_alloc | apply Kd.R_drewN | apply Kd.R_drew)); exact HO203.out))) (Kd.R_lt (by (with_reducible repeat (first | apply Kd.R_alloc | apply Kd.R_drewN | apply Kd.R_drew)); exact HO206.out))) (below_size (by repeat (first | (with_reducible first | exact HB.out | apply below_alloc | apply pw_below_drewN | apply below_drew1 | refine below_set ?_ GE197.out | refine below_set ?_ GE198.out) | exact HB.out))))
      have n4_ := Aside0.mk (blk_below (g := gb197) (o := .cells #[.slice A0_0 l0_0.length c0_0, .slice A0_1 l0_1.length c0_1] 37 (0, 0)) (by (with_reducible repeat (first | refine blk_drewN ?_ _ | refine blk_drew ?_ | refine blk_alloc ?_ _)); exact BK197.out) hb)
      have n5_ := Aside0.mk (blk_below (g := gb198) (o := .cells #[.slice A1_0 l1_0.length c1_0, .slice A1_1 l1_1.length c1_1] 37 (0, 0)) (by (with_reducible repeat (first | refine blk_drewN ?_ _ | refine blk_drew ?_ | refine blk_alloc ?_ _)); exact BK198.out) hb)
      have n6_ := Aside0.mk (below_step (by repeat (first | (with_reducible first | exact HB.out | apply below_alloc | apply pw_below_drewN | apply below_drew1 | refine below_set ?_ GE197.out | refine below_set ?_ GE198.out) | exact HB.out)) hb)
      clear HO203
      clear HO206
      clear BK197
      clear BK198
      clear HB
      have HO203 := n0_
      have HO206 := n1_
      have HO209 := n2_
      have HO212 := n3_
      have BK197 := n4_
      have BK198 := n5_
      have HB := n6_
      clear n0_ n1_ n2_ n3_ n4_ n5_ n6_
      (try clear hb)
      (try clear hb2)
      (try clear hk)
      (try clear hi)
      (try clear ho0)
      (try clear ho1)
      obtain ⟨Ao36, co36, eo36⟩ := Kd.R_slice HO203.out
      (first | subst eo36 | (injection eo36 with f1_ f2_ f3_; have f4_ := f1_.symm; have f5_ := f3_.symm; clear f1_ f2_ f3_; subst f4_; subst f5_))
      obtain ⟨Ao37, co37, eo37⟩ := Kd.R_slice HO206.out
      (first | subst eo37 | (injection eo37 with f1_ f2_ f3_; have f4_ := f1_.symm; have f5_ := f3_.symm; clear f1_ f2_ f3_; subst f4_; subst f5_))
      obtain ⟨Ao38, co38, eo38⟩ := Kd.R_slice HO209.out
      (first | subst eo38 | (injection eo38 with f1_ f2_ f3_; have f4_ := f1_.symm; have f5_ := f3_.symm; clear f1_ f2_ f3_; subst f4_; subst f5_))
      obtain ⟨Ao39, co39, eo39⟩ := Kd.R_slice HO212.out
      (first | subst eo39 | (injection eo39 with f1_ f2_ f3_; have f4_ := f1_.symm; have f5_ := f3_.symm; clear f1_ f2_ f3_; subst f4_; subst f5_))
      refine hK.out _ _ ⟨(blk_cell BK197.out 0).trans rfl, (blk_cell BK197.out 1).trans rfl, (blk_cell BK198.out 0).trans rfl, (blk_cell BK198.out 1).trans rfl⟩ (fun hHeld => ?_)
      clear hK K
      refine norm_ (a' := ?_) ?_ ?_
      rotate_left
      · show Act.put _ (some 31) _ = _
        simp only [Act.put, List.setIfInBounds_toArray, List.set_cons_zero, List.set_cons_succ, i64_w, i32_w]
        rfl
      refine one_ (i := 4) (N := some 32) #[true, true, true, true, true, false, false, false, false, false] rfl rfl (one_of HT_.out (by kernel_rfl)) (by decide) (fun K hK => ?_)
      refine goes_ Try.func38 (by kernel_rfl) rfl #[.agg #[.slice Ao36 t201.length co36, .slice Ao37 t204.length co37], .agg #[.slice Ao38 t207.length co38, .slice Ao39 t210.length co39]] (by rfl) rfl rfl (by (try simp only [List.map_toArray, List.map_cons, List.map_nil]); first | done | rfl | (simp only [List.length_drop, List.length_take]; rfl)) ?_
      with_reducible refine (spec_Fit.calls k _ _ t201 _ _ t204 _ _ t207 _ _ t210 t213 t216 _ ?side1 ?side2 ?side3 ?side4 ?side5 ?side6 ?side7 ?side8 A21.out).mono ?_
      (case side1 => repeat (first | exact (Kd.R_reads' HO203.out).2.2 | (with_reducible refine Kd.C_alloc ?_ _) | (with_reducible refine Kd.C_drewN ?_ _) | (with_reducible refine Kd.C_drew ?_)))
      (case side2 => exact (Kd.R_reads' HO203.out).2.1)
      (case side3 => repeat (first | exact (Kd.R_reads' HO206.out).2.2 | (with_reducible refine Kd.C_alloc ?_ _) | (with_reducible refine Kd.C_drewN ?_ _) | (with_reducible refine Kd.C_drew ?_)))
      (case side4 => exact (Kd.R_reads' HO206.out).2.1)
      (case side5 => repeat (first | exact (Kd.R_reads' HO209.out).2.2 | (with_reducible refine Kd.C_alloc ?_ _) | (with_reducible refine Kd.C_drewN ?_ _) | (with_reducible refine Kd.C_drew ?_)))
      (case side6 => exact (Kd.R_reads' HO209.out).2.1)
      (case side7 => repeat (first | exact (Kd.R_reads' HO212.out).2.2 | (with_reducible refine Kd.C_alloc ?_ _) | (with_reducible refine Kd.C_drewN ?_ _) | (with_reducible refine Kd.C_drew ?_)))
      (case side8 => exact (Kd.R_reads' HO212.out).2.1)
      rintro e w40 ⟨v214, rfl, ho0, hb⟩
      refine ⟨_, rfl, ?_⟩
      have n0_ := Aside0.mk (Kd.R_elder' (by (with_reducible repeat (first | apply Kd.R_alloc | apply Kd.R_drewN | apply Kd.R_drew)); exact HO203.out) (Kd.R_base ho0) hb)
      have n1_ := Aside0.mk (Kd.R_elder' (by (with_reducible repeat (first | apply Kd.R_alloc | apply Kd.R_drewN | apply Kd.R_drew)); exact HO206.out) (Kd.R_base ho0) hb)
      have n2_ := Aside0.mk (Kd.R_elder' (by (with_reducible repeat (first | apply Kd.R_alloc | apply Kd.R_drewN | apply Kd.R_drew)); exact HO209.out) (Kd.R_base ho0) hb)
      have n3_ := Aside0.mk (Kd.R_elder' (by (with_reducible repeat (first | apply Kd.R_alloc | apply Kd.R_drewN | apply Kd.R_drew)); exact HO212.out) (Kd.R_base ho0) hb)
      have n4_ := Aside0.mk (Kd.R_lower (Kd.R_new' (Kd.R_new' (Kd.R_new' (Kd.R_new' ho0 (Kd.R_lt (by (with_reducible repeat (first | apply Kd.R_alloc | apply Kd.R_drewN | apply Kd.R_drew)); exact HO203.out))) (Kd.R_lt (by (with_reducible repeat (first | apply Kd.R_alloc | apply Kd.R_drewN | apply Kd.R_drew)); exact HO206.out))) (Kd.R_lt (by (with_reducible repeat (first | apply Kd.R_alloc | apply Kd.R_drewN | apply Kd.R_drew)); exact HO209.out))) (Kd.R_lt (by (with_reducible repeat (first | apply Kd.R_alloc | apply Kd.R_drewN | apply Kd.R_drew)); exact HO212.out))) (below_size (by repeat (first | (with_reducible first | exact HB.out | apply below_alloc | apply pw_below_drewN | apply below_drew1 | refine below_set ?_ GE197.out | refine below_set ?_ GE198.out) | exact HB.out))))
      have n5_ := Aside0.mk (blk_below (g := gb197) (o := .cells #[.slice A0_0 l0_0.length c0_0, .slice A0_1 l0_1.length c0_1] 37 (0, 0)) (by (with_reducible repeat (first | refine blk_drewN ?_ _ | refine blk_drew ?_ | refine blk_alloc ?_ _)); exact BK197.out) hb)
      have n6_ := Aside0.mk (blk_below (g := gb198) (o := .cells #[.slice A1_0 l1_0.length c1_0, .slice A1_1 l1_1.length c1_1] 37 (0, 0)) (by (with_reducible repeat (first | refine blk_drewN ?_ _ | refine blk_drew ?_ | refine blk_alloc ?_ _)); exact BK198.out) hb)
      have n7_ := Aside0.mk (below_step (by repeat (first | (with_reducible first | exact HB.out | apply below_alloc | apply pw_below_drewN | apply below_drew1 | refine below_set ?_ GE197.out | refine below_set ?_ GE198.out) | exact HB.out)) hb)
      clear HO203
      clear HO206
      clear HO209
      clear HO212
      clear BK197
      clear BK198
      clear HB
      have HO203 := n0_
      have HO206 := n1_
      have HO209 := n2_
      have HO212 := n3_
      have HO215 := n4_
      have BK197 := n5_
      have BK198 := n6_
      have HB := n7_
      clear n0_ n1_ n2_ n3_ n4_ n5_ n6_ n7_
      (try clear hb)
      (try clear hb2)
      (try clear hk)
      (try clear hi)
      (try clear ho0)
      refine hK.out _ _ ⟨(blk_cell BK197.out 0).trans rfl, (blk_cell BK197.out 1).trans rfl, (blk_cell BK198.out 0).trans rfl, (blk_cell BK198.out 1).trans rfl⟩ (fun hHeld => ?_)
      clear hK K
      refine norm_ (a' := ?_) ?_ ?_
      rotate_left
      · show Act.put _ (some 32) _ = _
        simp only [Act.put, List.setIfInBounds_toArray, List.set_cons_zero, List.set_cons_succ, i64_w, i32_w]
        rfl
      refine pure_ (i := 5) (N := some 27) (v := ?_) (a' := ?_) #[true, true, true, true, true, true, false, false, false, false] rfl rfl (any_of HT_.out (by kernel_rfl)) (fun _ _ _ h => h) (Or.inl ⟨by rfl, ?_⟩) ?_ ?_
      rotate_left
      · intro w'
        go_simp
        with_reducible rfl
      rotate_left
      · simp only [Act.put, List.setIfInBounds_toArray, List.set_cons_zero, List.set_cons_succ, i64_w, i32_w]
        rfl
      refine pure_ (i := 6) (N := some 33) (v := ?_) (a' := ?_) #[true, true, true, true, true, true, true, false, false, false] rfl rfl (any_of HT_.out (by kernel_rfl)) (fun _ _ _ h => h) (Or.inl ⟨by rfl, ?_⟩) ?_ ?_
      rotate_left
      · intro w'
        go_simp
        with_reducible rfl
      rotate_left
      · simp only [Act.put, List.setIfInBounds_toArray, List.set_cons_zero, List.set_cons_succ, i64_w, i32_w]
        rfl
      refine pure_ (i := 7) (N := some 34) (v := ?_) (a' := ?_) #[true, true, true, true, true, true, true, true, false, false] rfl rfl (any_of HT_.out (by kernel_rfl)) (fun _ _ _ h => h) (Or.inl ⟨by rfl, ?_⟩) ?_ ?_
      rotate_left
      · intro w'
        go_simp
        with_reducible rfl
      rotate_left
      · simp only [Act.put, List.setIfInBounds_toArray, List.set_cons_zero, List.set_cons_succ, i64_w, i32_w]
        rfl
      refine pure_ (i := 8) (N := some 6) (v := ?_) (a' := ?_) #[true, true, true, true, true, true, true, true, true, false] rfl rfl (any_of HT_.out (by kernel_rfl)) (fun _ _ _ h => h) (Or.inl ⟨by rfl, ?_⟩) ?_ ?_
      rotate_left
      · intro w'
        go_simp
        with_reducible rfl
      rotate_left
      · simp only [Act.put, List.setIfInBounds_toArray, List.set_cons_zero, List.set_cons_succ, i64_w, i32_w]
        rfl
      refine pure_ (i := 9) (N := some 7) (v := ?_) (a' := ?_) #[true, true, true, true, true, true, true, true, true, true] rfl rfl (any_of HT_.out (by kernel_rfl)) (fun _ _ _ h => h) (Or.inl ⟨by rfl, ?_⟩) ?_ ?_
      rotate_left
      · intro w'
        go_simp
        with_reducible rfl
      rotate_left
      · simp only [Act.put, List.setIfInBounds_toArray, List.set_cons_zero, List.set_cons_succ, i64_w, i32_w]
        rfl
      refine done_ (done_of HT_.out (by kernel_rfl)) ?_
      have hcz41_0 : w40.cell? ⟨gb197, 0, none⟩ = some (.slice A0_0 l0_0.length c0_0) := (blk_cell BK197.out 0).trans rfl
      have hcz41_1 : w40.cell? ⟨gb197, 1, none⟩ = some (.slice A0_1 l0_1.length c0_1) := (blk_cell BK197.out 1).trans rfl
      have hfz41_0 := blk_frozen BK197.out 0
      have hfz41_1 := blk_frozen BK197.out 1
      go_upto_region 12 with (first | ((with_reducible refine gate_callee (f := 25) rfl ?_); refine goesL_ (some 36) rfl rfl Try.func25 (by kernel_rfl) rfl #[.agg #[.slice A0_0 l0_0.length c0_0, .slice A0_1 l0_1.length c0_1]] rfl (by (try simp only [List.map_toArray, List.map_cons, List.map_nil]); first | done | rfl | (simp only [List.length_drop, List.length_take]; rfl)) ?_; (with_reducible refine (laws_toArray.calls k _ _ l0_0 _ _ l0_1 t217 t220 _ ?side1 ?side2 ?side3 ?side4 A22.out).mono ?_); (case side1 => repeat (first | exact (Kd.C_below HR0_0.out HB.out) | (with_reducible refine Kd.C_alloc ?_ _) | (with_reducible refine Kd.C_drewN ?_ _) | (with_reducible refine Kd.C_drew ?_))); (case side2 => exact HC0_0.out); (case side3 => repeat (first | exact (Kd.C_below HR0_1.out HB.out) | (with_reducible refine Kd.C_alloc ?_ _) | (with_reducible refine Kd.C_drewN ?_ _) | (with_reducible refine Kd.C_drew ?_))); (case side4 => exact HC0_1.out); rintro e w42 ⟨v218, v221, rfl, ho0, ho1, hb⟩; refine ⟨_, rfl, ?_⟩; have n0_ := Aside0.mk (Kd.R_mono (Kd.R_told (Kd.R_told (Kd.R_old (by (with_reducible repeat (first | apply Kd.R_alloc | apply Kd.R_drewN | apply Kd.R_drew)); exact HO203.out) hb) (Kd.R_base ho0)) (Kd.R_base ho1)) (fun _ h_ => h_.1)); have n1_ := Aside0.mk (Kd.R_mono (Kd.R_told (Kd.R_told (Kd.R_old (by (with_reducible repeat (first | apply Kd.R_alloc | apply Kd.R_drewN | apply Kd.R_drew)); exact HO206.out) hb) (Kd.R_base ho0)) (Kd.R_base ho1)) (fun _ h_ => h_.1)); have n2_ := Aside0.mk (Kd.R_mono (Kd.R_told (Kd.R_told (Kd.R_old (by (with_reducible repeat (first | apply Kd.R_alloc | apply Kd.R_drewN | apply Kd.R_drew)); exact HO209.out) hb) (Kd.R_base ho0)) (Kd.R_base ho1)) (fun _ h_ => h_.1)); have n3_ := Aside0.mk (Kd.R_mono (Kd.R_told (Kd.R_told (Kd.R_old (by (with_reducible repeat (first | apply Kd.R_alloc | apply Kd.R_drewN | apply Kd.R_drew)); exact HO212.out) hb) (Kd.R_base ho0)) (Kd.R_base ho1)) (fun _ h_ => h_.1)); have n4_ := Aside0.mk (Kd.R_mono (Kd.R_told (Kd.R_told (Kd.R_old (by (with_reducible repeat (first | apply Kd.R_alloc | apply Kd.R_drewN | apply Kd.R_drew)); exact HO215.out) hb) (Kd.R_base ho0)) (Kd.R_base ho1)) (fun _ h_ => h_.1)); have n5_ := Aside0.mk (Kd.R_lower (Kd.R_new' (Kd.R_new' (Kd.R_new' (Kd.R_new' (Kd.R_new' ho0 (Kd.R_lt (by (with_reducible repeat (first | apply Kd.R_alloc | apply Kd.R_drewN | apply Kd.R_drew)); exact HO203.out))) (Kd.R_lt (by (with_reducible repeat (first | apply Kd.R_alloc | apply Kd.R_drewN | apply Kd.R_drew)); exact HO206.out))) (Kd.R_lt (by (with_reducible repeat (first | apply Kd.R_alloc | apply Kd.R_drewN | apply Kd.R_drew)); exact HO209.out))) (Kd.R_lt (by (with_reducible repeat (first | apply Kd.R_alloc | apply Kd.R_drewN | apply Kd.R_drew)); exact HO212.out))) (Kd.R_lt (by (with_reducible repeat (first | apply Kd.R_alloc | apply Kd.R_drewN | apply Kd.R_drew)); exact HO215.out))) (below_size (by repeat (first | (with_reducible first | exact HB.out | apply below_alloc | apply pw_below_drewN | apply below_drew1 | refine below_set ?_ GE197.out | refine below_set ?_ GE198.out) | exact HB.out)))); have n6_ := Aside0.mk (Kd.R_lower (Kd.R_new' (Kd.R_new' (Kd.R_new' (Kd.R_new' (Kd.R_new' ho1 (Kd.R_lt (by (with_reducible repeat (first | apply Kd.R_alloc | apply Kd.R_drewN | apply Kd.R_drew)); exact HO203.out))) (Kd.R_lt (by (with_reducible repeat (first | apply Kd.R_alloc | apply Kd.R_drewN | apply Kd.R_drew)); exact HO206.out))) (Kd.R_lt (by (with_reducible repeat (first | apply Kd.R_alloc | apply Kd.R_drewN | apply Kd.R_drew)); exact HO209.out))) (Kd.R_lt (by (with_reducible repeat (first | apply Kd.R_alloc | apply Kd.R_drewN | apply Kd.R_drew)); exact HO212.out))) (Kd.R_lt (by (with_reducible repeat (first | apply Kd.R_alloc | apply Kd.R_drewN | apply Kd.R_drew)); exact HO215.out))) (below_size (by repeat (first | (with_reducible first | exact HB.out | apply below_alloc | apply pw_below_drewN | apply below_drew1 | refine below_set ?_ GE197.out | refine below_set ?_ GE198.out) | exact HB.out)))); have n7_ := Aside0.mk (blk_below (g := gb197) (o := .cells #[.slice A0_0 l0_0.length c0_0, .slice A0_1 l0_1.length c0_1] 37 (0, 0)) (by (with_reducible repeat (first | refine blk_drewN ?_ _ | refine blk_drew ?_ | refine blk_alloc ?_ _)); exact BK197.out) hb); have n8_ := Aside0.mk (blk_below (g := gb198) (o := .cells #[.slice A1_0 l1_0.length c1_0, .slice A1_1 l1_1.length c1_1] 37 (0, 0)) (by (with_reducible repeat (first | refine blk_drewN ?_ _ | refine blk_drew ?_ | refine blk_alloc ?_ _)); exact BK198.out) hb); have n9_ := Aside0.mk (below_step (by repeat (first | (with_reducible first | exact HB.out | apply below_alloc | apply pw_below_drewN | apply below_drew1 | refine below_set ?_ GE197.out | refine below_set ?_ GE198.out) | exact HB.out)) hb); clear HO203; clear HO206; clear HO209; clear HO212; clear HO215; clear BK197; clear BK198; clear HB; have HO203 := n0_; have HO206 := n1_; have HO209 := n2_; have HO212 := n3_; have HO215 := n4_; have HO219 := n5_; have HO222 := n6_; have BK197 := n7_; have BK198 := n8_; have HB := n9_; clear n0_ n1_ n2_ n3_ n4_ n5_ n6_ n7_ n8_ n9_; (try clear hb); (try clear hb2); (try clear hk); (try clear hi); (try clear ho0); (try clear ho1)) | ((with_reducible refine gate_dst (N := 8) rfl ?_); refine box_event ?hg (N := 8) ?hd (cs := #[.slice none 0 0, .slice none 0 0]) (t := 26) ?hr ?_; (case hd => rfl); (case hg => rfl); (case hr => first | (go_simp; done) | (go_simp; rfl)); intro gb223 hg w43 hbox hb; have n0_ := Aside0.mk (Kd.R_below (by (with_reducible repeat (first | apply Kd.R_alloc | apply Kd.R_drewN | apply Kd.R_drew)); exact HO203.out) hb); have n1_ := Aside0.mk (Kd.R_below (by (with_reducible repeat (first | apply Kd.R_alloc | apply Kd.R_drewN | apply Kd.R_drew)); exact HO206.out) hb); have n2_ := Aside0.mk (Kd.R_below (by (with_reducible repeat (first | apply Kd.R_alloc | apply Kd.R_drewN | apply Kd.R_drew)); exact HO209.out) hb); have n3_ := Aside0.mk (Kd.R_below (by (with_reducible repeat (first | apply Kd.R_alloc | apply Kd.R_drewN | apply Kd.R_drew)); exact HO212.out) hb); have n4_ := Aside0.mk (Kd.R_below (by (with_reducible repeat (first | apply Kd.R_alloc | apply Kd.R_drewN | apply Kd.R_drew)); exact HO215.out) hb); have n5_ := Aside0.mk (Kd.R_below (by (with_reducible repeat (first | apply Kd.R_alloc | apply Kd.R_drewN | apply Kd.R_drew)); exact HO219.out) hb); have n6_ := Aside0.mk (Kd.R_below (by (with_reducible repeat (first | apply Kd.R_alloc | apply Kd.R_drewN | apply Kd.R_drew)); exact HO222.out) hb); have n7_ := Aside0.mk (blk_below (g := gb197) (o := .cells #[.slice A0_0 l0_0.length c0_0, .slice A0_1 l0_1.length c0_1] 37 (0, 0)) (by (with_reducible repeat (first | refine blk_drewN ?_ _ | refine blk_drew ?_ | refine blk_alloc ?_ _)); exact BK197.out) hb); have n8_ := Aside0.mk (blk_below (g := gb198) (o := .cells #[.slice A1_0 l1_0.length c1_0, .slice A1_1 l1_1.length c1_1] 37 (0, 0)) (by (with_reducible repeat (first | refine blk_drewN ?_ _ | refine blk_drew ?_ | refine blk_alloc ?_ _)); exact BK198.out) hb); have n9_ := Aside0.mk (below_step (by repeat (first | (with_reducible first | exact HB.out | apply below_alloc | apply pw_below_drewN | apply below_drew1 | refine below_set ?_ GE197.out | refine below_set ?_ GE198.out) | exact HB.out)) hb); have n10_ := Aside0.mk (hbox); have n11_ := Aside0.mk ((by rw [hg]; exact (below_size (by repeat (first | (with_reducible first | exact HB.out | apply below_alloc | apply pw_below_drewN | apply below_drew1 | refine below_set ?_ GE197.out | refine below_set ?_ GE198.out) | exact HB.out))) : w.heap.size ≤ gb223)); have n12_ := Aside0.mk ((by rw [hg]; exact (below_size (by repeat (first | (with_reducible first | exact HB.out | apply below_alloc | apply pw_below_drewN | apply below_drew1 | refine below_set ?_ GE197.out | refine below_set ?_ GE198.out) | exact HB.out))) : w.heap.size ≤ gb223)); have n13_ := Aside0.mk ((by rw [hg]; exact Nat.ne_of_lt (blk_lt (g := gb197) (o := .cells #[.slice A0_0 l0_0.length c0_0, .slice A0_1 l0_1.length c0_1] 37 (0, 0)) (by (with_reducible repeat (first | refine blk_drewN ?_ _ | refine blk_drew ?_ | refine blk_alloc ?_ _)); exact BK197.out)) : gb197 ≠ gb223)); have n14_ := Aside0.mk ((by rw [hg]; exact Nat.ne_of_gt (blk_lt (g := gb197) (o := .cells #[.slice A0_0 l0_0.length c0_0, .slice A0_1 l0_1.length c0_1] 37 (0, 0)) (by (with_reducible repeat (first | refine blk_drewN ?_ _ | refine blk_drew ?_ | refine blk_alloc ?_ _)); exact BK197.out)) : gb223 ≠ gb197)); have n15_ := Aside0.mk ((by rw [hg]; exact Nat.ne_of_lt (blk_lt (g := gb198) (o := .cells #[.slice A1_0 l1_0.length c1_0, .slice A1_1 l1_1.length c1_1] 37 (0, 0)) (by (with_reducible repeat (first | refine blk_drewN ?_ _ | refine blk_drew ?_ | refine blk_alloc ?_ _)); exact BK198.out)) : gb198 ≠ gb223)); have n16_ := Aside0.mk ((by rw [hg]; exact Nat.ne_of_gt (blk_lt (g := gb198) (o := .cells #[.slice A1_0 l1_0.length c1_0, .slice A1_1 l1_1.length c1_1] 37 (0, 0)) (by (with_reducible repeat (first | refine blk_drewN ?_ _ | refine blk_drew ?_ | refine blk_alloc ?_ _)); exact BK198.out)) : gb223 ≠ gb198)); clear HO203; clear HO206; clear HO209; clear HO212; clear HO215; clear HO219; clear HO222; clear BK197; clear BK198; clear HB; have HO203 := n0_; have HO206 := n1_; have HO209 := n2_; have HO212 := n3_; have HO215 := n4_; have HO219 := n5_; have HO222 := n6_; have BK197 := n7_; have BK198 := n8_; have HB := n9_; have BK223 := n10_; have GW223 := n11_; have GE223 := n12_; have NB197_223 := n13_; have NB223_197 := n14_; have NB198_223 := n15_; have NB223_198 := n16_; clear n0_ n1_ n2_ n3_ n4_ n5_ n6_ n7_ n8_ n9_ n10_ n11_ n12_ n13_ n14_ n15_ n16_; clear hb hbox hg; obtain ⟨Ao44, co44, eo44⟩ := Kd.R_slice HO219.out; subst eo44; have hnb45 := NB223_197.out; have hnc45 := NB197_223.out; have hnb46 := NB223_198.out; have hnc46 := NB198_223.out; have hcz47_0 : w43.cell? ⟨gb223, 0, none⟩ = some (.slice none 0 0) := (blk_cell BK223.out 0).trans rfl; have hcz47_1 : w43.cell? ⟨gb223, 1, none⟩ = some (.slice none 0 0) := (blk_cell BK223.out 1).trans rfl; have hfz47_0 := blk_frozen BK223.out 0; have hfz47_1 := blk_frozen BK223.out 1; obtain ⟨Ao48, co48, eo48⟩ := Kd.R_slice HO222.out; subst eo48; have hcz49_0 : w43.cell? ⟨gb198, 0, none⟩ = some (.slice A1_0 l1_0.length c1_0) := (blk_cell BK198.out 0).trans rfl; have hcz49_1 : w43.cell? ⟨gb198, 1, none⟩ = some (.slice A1_1 l1_1.length c1_1) := (blk_cell BK198.out 1).trans rfl; have hfz49_0 := blk_frozen BK198.out 0; have hfz49_1 := blk_frozen BK198.out 1) | ((with_reducible refine gate_callee (f := 25) rfl ?_); refine goesL_ (some 38) rfl rfl Try.func25 (by kernel_rfl) rfl #[.agg #[.slice A1_0 l1_0.length c1_0, .slice A1_1 l1_1.length c1_1]] rfl (by (try simp only [List.map_toArray, List.map_cons, List.map_nil]); first | done | rfl | (simp only [List.length_drop, List.length_take]; rfl)) ?_; (with_reducible refine (laws_toArray.calls k _ _ l1_0 _ _ l1_1 t224 t227 _ ?side1 ?side2 ?side3 ?side4 A23.out).mono ?_); (case side1 => exact Kd.C_below HR1_0.out (by repeat (first | (with_reducible first | exact HB.out | apply below_alloc | apply pw_below_drewN | apply below_drew1 | refine below_set ?_ GE197.out | refine below_set ?_ GE198.out | refine below_set ?_ GE223.out) | exact HB.out))); (case side2 => exact HC1_0.out); (case side3 => exact Kd.C_below HR1_1.out (by repeat (first | (with_reducible first | exact HB.out | apply below_alloc | apply pw_below_drewN | apply below_drew1 | refine below_set ?_ GE197.out | refine below_set ?_ GE198.out | refine below_set ?_ GE223.out) | exact HB.out))); (case side4 => exact HC1_1.out); rintro e w50 ⟨v225, v228, rfl, ho0, ho1, hb⟩; refine ⟨_, rfl, ?_⟩; have n0_ := Aside0.mk (Kd.R_mono (Kd.R_told (Kd.R_told (Kd.R_old (by (with_reducible repeat (first | apply Kd.R_alloc | apply Kd.R_drewN | apply Kd.R_drew)); exact (Kd.R_mono (Kd.R_far (p := ⟨gb223, 1, none⟩) (Kd.R_far (p := ⟨gb223, 0, none⟩) (Kd.R_types HO203.out BK223.out (by decide)) (fun _ hk => hk.2) (.slice Ao44 t217.length co44)) (fun _ hk => hk.2) (.slice Ao48 t220.length co48)) (fun _ h_ => h_.1))) hb) (Kd.R_base ho0)) (Kd.R_base ho1)) (fun _ h_ => h_.1)); have n1_ := Aside0.mk (Kd.R_mono (Kd.R_told (Kd.R_told (Kd.R_old (by (with_reducible repeat (first | apply Kd.R_alloc | apply Kd.R_drewN | apply Kd.R_drew)); exact (Kd.R_mono (Kd.R_far (p := ⟨gb223, 1, none⟩) (Kd.R_far (p := ⟨gb223, 0, none⟩) (Kd.R_types HO206.out BK223.out (by decide)) (fun _ hk => hk.2) (.slice Ao44 t217.length co44)) (fun _ hk => hk.2) (.slice Ao48 t220.length co48)) (fun _ h_ => h_.1))) hb) (Kd.R_base ho0)) (Kd.R_base ho1)) (fun _ h_ => h_.1)); have n2_ := Aside0.mk (Kd.R_mono (Kd.R_told (Kd.R_told (Kd.R_old (by (with_reducible repeat (first | apply Kd.R_alloc | apply Kd.R_drewN | apply Kd.R_drew)); exact (Kd.R_mono (Kd.R_far (p := ⟨gb223, 1, none⟩) (Kd.R_far (p := ⟨gb223, 0, none⟩) (Kd.R_types HO209.out BK223.out (by decide)) (fun _ hk => hk.2) (.slice Ao44 t217.length co44)) (fun _ hk => hk.2) (.slice Ao48 t220.length co48)) (fun _ h_ => h_.1))) hb) (Kd.R_base ho0)) (Kd.R_base ho1)) (fun _ h_ => h_.1)); have n3_ := Aside0.mk (Kd.R_mono (Kd.R_told (Kd.R_told (Kd.R_old (by (with_reducible repeat (first | apply Kd.R_alloc | apply Kd.R_drewN | apply Kd.R_drew)); exact (Kd.R_mono (Kd.R_far (p := ⟨gb223, 1, none⟩) (Kd.R_far (p := ⟨gb223, 0, none⟩) (Kd.R_types HO212.out BK223.out (by decide)) (fun _ hk => hk.2) (.slice Ao44 t217.length co44)) (fun _ hk => hk.2) (.slice Ao48 t220.length co48)) (fun _ h_ => h_.1))) hb) (Kd.R_base ho0)) (Kd.R_base ho1)) (fun _ h_ => h_.1)); have n4_ := Aside0.mk (Kd.R_mono (Kd.R_told (Kd.R_told (Kd.R_old (by (with_reducible repeat (first | apply Kd.R_alloc | apply Kd.R_drewN | apply Kd.R_drew)); exact (Kd.R_mono (Kd.R_far (p := ⟨gb223, 1, none⟩) (Kd.R_far (p := ⟨gb223, 0, none⟩) (Kd.R_types HO215.out BK223.out (by decide)) (fun _ hk => hk.2) (.slice Ao44 t217.length co44)) (fun _ hk => hk.2) (.slice Ao48 t220.length co48)) (fun _ h_ => h_.1))) hb) (Kd.R_base ho0)) (Kd.R_base ho1)) (fun _ h_ => h_.1)); have n5_ := Aside0.mk (Kd.R_mono (Kd.R_told (Kd.R_told (Kd.R_old (by (with_reducible repeat (first | apply Kd.R_alloc | apply Kd.R_drewN | apply Kd.R_drew)); exact (Kd.R_mono (Kd.R_far (p := ⟨gb223, 1, none⟩) (Kd.R_far (p := ⟨gb223, 0, none⟩) (Kd.R_types HO219.out BK223.out (by decide)) (fun _ hk => hk.2) (.slice Ao44 t217.length co44)) (fun _ hk => hk.2) (.slice Ao48 t220.length co48)) (fun _ h_ => h_.1))) hb) (Kd.R_base ho0)) (Kd.R_base ho1)) (fun _ h_ => h_.1)); have n6_ := Aside0.mk (Kd.R_mono (Kd.R_told (Kd.R_told (Kd.R_old (by (with_reducible repeat (first | apply Kd.R_alloc | apply Kd.R_drewN | apply Kd.R_drew)); exact (Kd.R_mono (Kd.R_far (p := ⟨gb223, 1, none⟩) (Kd.R_far (p := ⟨gb223, 0, none⟩) (Kd.R_types HO222.out BK223.out (by decide)) (fun _ hk => hk.2) (.slice Ao44 t217.length co44)) (fun _ hk => hk.2) (.slice Ao48 t220.length co48)) (fun _ h_ => h_.1))) hb) (Kd.R_base ho0)) (Kd.R_base ho1)) (fun _ h_ => h_.1)); have n7_ := Aside0.mk (Kd.R_lower (Kd.R_new' (Kd.R_new' (Kd.R_new' (Kd.R_new' (Kd.R_new' (Kd.R_new' (Kd.R_new' ho0 (Kd.R_lt (by (with_reducible repeat (first | apply Kd.R_alloc | apply Kd.R_drewN | apply Kd.R_drew)); exact (Kd.R_mono (Kd.R_far (p := ⟨gb223, 1, none⟩) (Kd.R_far (p := ⟨gb223, 0, none⟩) (Kd.R_types HO203.out BK223.out (by decide)) (fun _ hk => hk.2) (.slice Ao44 t217.length co44)) (fun _ hk => hk.2) (.slice Ao48 t220.length co48)) (fun _ h_ => h_.1))))) (Kd.R_lt (by (with_reducible repeat (first | apply Kd.R_alloc | apply Kd.R_drewN | apply Kd.R_drew)); exact (Kd.R_mono (Kd.R_far (p := ⟨gb223, 1, none⟩) (Kd.R_far (p := ⟨gb223, 0, none⟩) (Kd.R_types HO206.out BK223.out (by decide)) (fun _ hk => hk.2) (.slice Ao44 t217.length co44)) (fun _ hk => hk.2) (.slice Ao48 t220.length co48)) (fun _ h_ => h_.1))))) (Kd.R_lt (by (with_reducible repeat (first | apply Kd.R_alloc | apply Kd.R_drewN | apply Kd.R_drew)); exact (Kd.R_mono (Kd.R_far (p := ⟨gb223, 1, none⟩) (Kd.R_far (p := ⟨gb223, 0, none⟩) (Kd.R_types HO209.out BK223.out (by decide)) (fun _ hk => hk.2) (.slice Ao44 t217.length co44)) (fun _ hk => hk.2) (.slice Ao48 t220.length co48)) (fun _ h_ => h_.1))))) (Kd.R_lt (by (with_reducible repeat (first | apply Kd.R_alloc | apply Kd.R_drewN | apply Kd.R_drew)); exact (Kd.R_mono (Kd.R_far (p := ⟨gb223, 1, none⟩) (Kd.R_far (p := ⟨gb223, 0, none⟩) (Kd.R_types HO212.out BK223.out (by decide)) (fun _ hk => hk.2) (.slice Ao44 t217.length co44)) (fun _ hk => hk.2) (.slice Ao48 t220.length co48)) (fun _ h_ => h_.1))))) (Kd.R_lt (by (with_reducible repeat (first | apply Kd.R_alloc | apply Kd.R_drewN | apply Kd.R_drew)); exact (Kd.R_mono (Kd.R_far (p := ⟨gb223, 1, none⟩) (Kd.R_far (p := ⟨gb223, 0, none⟩) (Kd.R_types HO215.out BK223.out (by decide)) (fun _ hk => hk.2) (.slice Ao44 t217.length co44)) (fun _ hk => hk.2) (.slice Ao48 t220.length co48)) (fun _ h_ => h_.1))))) (Kd.R_lt (by (with_reducible repeat (first | apply Kd.R_alloc | apply Kd.R_drewN | apply Kd.R_drew)); exact (Kd.R_mono (Kd.R_far (p := ⟨gb223, 1, none⟩) (Kd.R_far (p := ⟨gb223, 0, none⟩) (Kd.R_types HO219.out BK223.out (by decide)) (fun _ hk => hk.2) (.slice Ao44 t217.length co44)) (fun _ hk => hk.2) (.slice Ao48 t220.length co48)) (fun _ h_ => h_.1))))) (Kd.R_lt (by (with_reducible repeat (first | apply Kd.R_alloc | apply Kd.R_drewN | apply Kd.R_drew)); exact (Kd.R_mono (Kd.R_far (p := ⟨gb223, 1, none⟩) (Kd.R_far (p := ⟨gb223, 0, none⟩) (Kd.R_types HO222.out BK223.out (by decide)) (fun _ hk => hk.2) (.slice Ao44 t217.length co44)) (fun _ hk => hk.2) (.slice Ao48 t220.length co48)) (fun _ h_ => h_.1))))) (below_size (by repeat (first | (with_reducible first | exact HB.out | apply below_alloc | apply pw_below_drewN | apply below_drew1 | refine below_set ?_ GE197.out | refine below_set ?_ GE198.out | refine below_set ?_ GE223.out) | exact HB.out)))); have n8_ := Aside0.mk (Kd.R_lower (Kd.R_new' (Kd.R_new' (Kd.R_new' (Kd.R_new' (Kd.R_new' (Kd.R_new' (Kd.R_new' ho1 (Kd.R_lt (by (with_reducible repeat (first | apply Kd.R_alloc | apply Kd.R_drewN | apply Kd.R_drew)); exact (Kd.R_mono (Kd.R_far (p := ⟨gb223, 1, none⟩) (Kd.R_far (p := ⟨gb223, 0, none⟩) (Kd.R_types HO203.out BK223.out (by decide)) (fun _ hk => hk.2) (.slice Ao44 t217.length co44)) (fun _ hk => hk.2) (.slice Ao48 t220.length co48)) (fun _ h_ => h_.1))))) (Kd.R_lt (by (with_reducible repeat (first | apply Kd.R_alloc | apply Kd.R_drewN | apply Kd.R_drew)); exact (Kd.R_mono (Kd.R_far (p := ⟨gb223, 1, none⟩) (Kd.R_far (p := ⟨gb223, 0, none⟩) (Kd.R_types HO206.out BK223.out (by decide)) (fun _ hk => hk.2) (.slice Ao44 t217.length co44)) (fun _ hk => hk.2) (.slice Ao48 t220.length co48)) (fun _ h_ => h_.1))))) (Kd.R_lt (by (with_reducible repeat (first | apply Kd.R_alloc | apply Kd.R_drewN | apply Kd.R_drew)); exact (Kd.R_mono (Kd.R_far (p := ⟨gb223, 1, none⟩) (Kd.R_far (p := ⟨gb223, 0, none⟩) (Kd.R_types HO209.out BK223.out (by decide)) (fun _ hk => hk.2) (.slice Ao44 t217.length co44)) (fun _ hk => hk.2) (.slice Ao48 t220.length co48)) (fun _ h_ => h_.1))))) (Kd.R_lt (by (with_reducible repeat (first | apply Kd.R_alloc | apply Kd.R_drewN | apply Kd.R_drew)); exact (Kd.R_mono (Kd.R_far (p := ⟨gb223, 1, none⟩) (Kd.R_far (p := ⟨gb223, 0, none⟩) (Kd.R_types HO212.out BK223.out (by decide)) (fun _ hk => hk.2) (.slice Ao44 t217.length co44)) (fun _ hk => hk.2) (.slice Ao48 t220.length co48)) (fun _ h_ => h_.1))))) (Kd.R_lt (by (with_reducible repeat (first | apply Kd.R_alloc | apply Kd.R_drewN | apply Kd.R_drew)); exact (Kd.R_mono (Kd.R_far (p := ⟨gb223, 1, none⟩) (Kd.R_far (p := ⟨gb223, 0, none⟩) (Kd.R_types HO215.out BK223.out (by decide)) (fun _ hk => hk.2) (.slice Ao44 t217.length co44)) (fun _ hk => hk.2) (.slice Ao48 t220.length co48)) (fun _ h_ => h_.1))))) (Kd.R_lt (by (with_reducible repeat (first | apply Kd.R_alloc | apply Kd.R_drewN | apply Kd.R_drew)); exact (Kd.R_mono (Kd.R_far (p := ⟨gb223, 1, none⟩) (Kd.R_far (p := ⟨gb223, 0, none⟩) (Kd.R_types HO219.out BK223.out (by decide)) (fun _ hk => hk.2) (.slice Ao44 t217.length co44)) (fun _ hk => hk.2) (.slice Ao48 t220.length co48)) (fun _ h_ => h_.1))))) (Kd.R_lt (by (with_reducible repeat (first | apply Kd.R_alloc | apply Kd.R_drewN | apply Kd.R_drew)); exact (Kd.R_mono (Kd.R_far (p := ⟨gb223, 1, none⟩) (Kd.R_far (p := ⟨gb223, 0, none⟩) (Kd.R_types HO222.out BK223.out (by decide)) (fun _ hk => hk.2) (.slice Ao44 t217.length co44)) (fun _ hk => hk.2) (.slice Ao48 t220.length co48)) (fun _ h_ => h_.1))))) (below_size (by repeat (first | (with_reducible first | exact HB.out | apply below_alloc | apply pw_below_drewN | apply below_drew1 | refine below_set ?_ GE197.out | refine below_set ?_ GE198.out | refine below_set ?_ GE223.out) | exact HB.out)))); have n9_ := Aside0.mk (blk_below (g := gb197) (o := .cells #[.slice A0_0 l0_0.length c0_0, .slice A0_1 l0_1.length c0_1] 37 (0, 0)) (by (with_reducible repeat (first | refine blk_drewN ?_ _ | refine blk_drew ?_ | refine blk_alloc ?_ _)); refine blk_far ?_ NB197_223.out _; (with_reducible repeat (first | refine blk_drewN ?_ _ | refine blk_drew ?_ | refine blk_alloc ?_ _)); refine blk_far ?_ NB197_223.out _; (with_reducible repeat (first | refine blk_drewN ?_ _ | refine blk_drew ?_ | refine blk_alloc ?_ _)); exact BK197.out) hb); have n10_ := Aside0.mk (blk_below (g := gb198) (o := .cells #[.slice A1_0 l1_0.length c1_0, .slice A1_1 l1_1.length c1_1] 37 (0, 0)) (by (with_reducible repeat (first | refine blk_drewN ?_ _ | refine blk_drew ?_ | refine blk_alloc ?_ _)); refine blk_far ?_ NB198_223.out _; (with_reducible repeat (first | refine blk_drewN ?_ _ | refine blk_drew ?_ | refine blk_alloc ?_ _)); refine blk_far ?_ NB198_223.out _; (with_reducible repeat (first | refine blk_drewN ?_ _ | refine blk_drew ?_ | refine blk_alloc ?_ _)); exact BK198.out) hb); have n11_ := Aside0.mk (blk_below (g := gb223) (o := .cells #[.slice Ao44 t217.length co44, .slice Ao48 t220.length co48] 26 (0, 0)) (by (with_reducible repeat (first | refine blk_drewN ?_ _ | refine blk_drew ?_ | refine blk_alloc ?_ _)); refine blk_put (cs := #[.slice Ao44 t217.length co44, .slice none 0 0]) ?_ 1 _ rfl; (with_reducible repeat (first | refine blk_drewN ?_ _ | refine blk_drew ?_ | refine blk_alloc ?_ _)); refine blk_put (cs := #[.slice none 0 0, .slice none 0 0]) ?_ 0 _ rfl; (with_reducible repeat (first | refine blk_drewN ?_ _ | refine blk_drew ?_ | refine blk_alloc ?_ _)); exact BK223.out) hb); have n12_ := Aside0.mk (below_step (by repeat (first | (with_reducible first | exact HB.out | apply below_alloc | apply pw_below_drewN | apply below_drew1 | refine below_set ?_ GE197.out | refine below_set ?_ GE198.out | refine below_set ?_ GE223.out) | exact HB.out)) hb); clear HO203; clear HO206; clear HO209; clear HO212; clear HO215; clear HO219; clear HO222; clear BK197; clear BK198; clear BK223; clear HB; have HO203 := n0_; have HO206 := n1_; have HO209 := n2_; have HO212 := n3_; have HO215 := n4_; have HO219 := n5_; have HO222 := n6_; have HO226 := n7_; have HO229 := n8_; have BK197 := n9_; have BK198 := n10_; have BK223 := n11_; have HB := n12_; clear n0_ n1_ n2_ n3_ n4_ n5_ n6_ n7_ n8_ n9_ n10_ n11_ n12_; (try clear hb); (try clear hb2); (try clear hk); (try clear hi); (try clear ho0); (try clear ho1)) | ((with_reducible refine gate_dst (N := 9) rfl ?_); refine box_event ?hg (N := 9) ?hd (cs := #[.slice none 0 0, .slice none 0 0]) (t := 26) ?hr ?_; (case hd => rfl); (case hg => rfl); (case hr => first | (go_simp; done) | (go_simp; rfl)); intro gb230 hg w51 hbox hb; have n0_ := Aside0.mk (Kd.R_below (by (with_reducible repeat (first | apply Kd.R_alloc | apply Kd.R_drewN | apply Kd.R_drew)); exact HO203.out) hb); have n1_ := Aside0.mk (Kd.R_below (by (with_reducible repeat (first | apply Kd.R_alloc | apply Kd.R_drewN | apply Kd.R_drew)); exact HO206.out) hb); have n2_ := Aside0.mk (Kd.R_below (by (with_reducible repeat (first | apply Kd.R_alloc | apply Kd.R_drewN | apply Kd.R_drew)); exact HO209.out) hb); have n3_ := Aside0.mk (Kd.R_below (by (with_reducible repeat (first | apply Kd.R_alloc | apply Kd.R_drewN | apply Kd.R_drew)); exact HO212.out) hb); have n4_ := Aside0.mk (Kd.R_below (by (with_reducible repeat (first | apply Kd.R_alloc | apply Kd.R_drewN | apply Kd.R_drew)); exact HO215.out) hb); have n5_ := Aside0.mk (Kd.R_below (by (with_reducible repeat (first | apply Kd.R_alloc | apply Kd.R_drewN | apply Kd.R_drew)); exact HO219.out) hb); have n6_ := Aside0.mk (Kd.R_below (by (with_reducible repeat (first | apply Kd.R_alloc | apply Kd.R_drewN | apply Kd.R_drew)); exact HO222.out) hb); have n7_ := Aside0.mk (Kd.R_below (by (with_reducible repeat (first | apply Kd.R_alloc | apply Kd.R_drewN | apply Kd.R_drew)); exact HO226.out) hb); have n8_ := Aside0.mk (Kd.R_below (by (with_reducible repeat (first | apply Kd.R_alloc | apply Kd.R_drewN | apply Kd.R_drew)); exact HO229.out) hb); have n9_ := Aside0.mk (blk_below (g := gb197) (o := .cells #[.slice A0_0 l0_0.length c0_0, .slice A0_1 l0_1.length c0_1] 37 (0, 0)) (by (with_reducible repeat (first | refine blk_drewN ?_ _ | refine blk_drew ?_ | refine blk_alloc ?_ _)); exact BK197.out) hb); have n10_ := Aside0.mk (blk_below (g := gb198) (o := .cells #[.slice A1_0 l1_0.length c1_0, .slice A1_1 l1_1.length c1_1] 37 (0, 0)) (by (with_reducible repeat (first | refine blk_drewN ?_ _ | refine blk_drew ?_ | refine blk_alloc ?_ _)); exact BK198.out) hb); have n11_ := Aside0.mk (blk_below (g := gb223) (o := .cells #[.slice Ao44 t217.length co44, .slice Ao48 t220.length co48] 26 (0, 0)) (by (with_reducible repeat (first | refine blk_drewN ?_ _ | refine blk_drew ?_ | refine blk_alloc ?_ _)); exact BK223.out) hb); have n12_ := Aside0.mk (below_step (by repeat (first | (with_reducible first | exact HB.out | apply below_alloc | apply pw_below_drewN | apply below_drew1 | refine below_set ?_ GE197.out | refine below_set ?_ GE198.out | refine below_set ?_ GE223.out) | exact HB.out)) hb); have n13_ := Aside0.mk (hbox); have n14_ := Aside0.mk ((by rw [hg]; exact (below_size (by repeat (first | (with_reducible first | exact HB.out | apply below_alloc | apply pw_below_drewN | apply below_drew1 | refine below_set ?_ GE197.out | refine below_set ?_ GE198.out | refine below_set ?_ GE223.out) | exact HB.out))) : w.heap.size ≤ gb230)); have n15_ := Aside0.mk ((by rw [hg]; exact (below_size (by repeat (first | (with_reducible first | exact HB.out | apply below_alloc | apply pw_below_drewN | apply below_drew1 | refine below_set ?_ GE197.out | refine below_set ?_ GE198.out | refine below_set ?_ GE223.out) | exact HB.out))) : w.heap.size ≤ gb230)); have n16_ := Aside0.mk ((by rw [hg]; exact Nat.ne_of_lt (blk_lt (g := gb197) (o := .cells #[.slice A0_0 l0_0.length c0_0, .slice A0_1 l0_1.length c0_1] 37 (0, 0)) (by (with_reducible repeat (first | refine blk_drewN ?_ _ | refine blk_drew ?_ | refine blk_alloc ?_ _)); exact BK197.out)) : gb197 ≠ gb230)); have n17_ := Aside0.mk ((by rw [hg]; exact Nat.ne_of_gt (blk_lt (g := gb197) (o := .cells #[.slice A0_0 l0_0.length c0_0, .slice A0_1 l0_1.length c0_1] 37 (0, 0)) (by (with_reducible repeat (first | refine blk_drewN ?_ _ | refine blk_drew ?_ | refine blk_alloc ?_ _)); exact BK197.out)) : gb230 ≠ gb197)); have n18_ := Aside0.mk ((by rw [hg]; exact Nat.ne_of_lt (blk_lt (g := gb198) (o := .cells #[.slice A1_0 l1_0.length c1_0, .slice A1_1 l1_1.length c1_1] 37 (0, 0)) (by (with_reducible repeat (first | refine blk_drewN ?_ _ | refine blk_drew ?_ | refine blk_alloc ?_ _)); exact BK198.out)) : gb198 ≠ gb230)); have n19_ := Aside0.mk ((by rw [hg]; exact Nat.ne_of_gt (blk_lt (g := gb198) (o := .cells #[.slice A1_0 l1_0.length c1_0, .slice A1_1 l1_1.length c1_1] 37 (0, 0)) (by (with_reducible repeat (first | refine blk_drewN ?_ _ | refine blk_drew ?_ | refine blk_alloc ?_ _)); exact BK198.out)) : gb230 ≠ gb198)); have n20_ := Aside0.mk ((by rw [hg]; exact Nat.ne_of_lt (blk_lt (g := gb223) (o := .cells #[.slice Ao44 t217.length co44, .slice Ao48 t220.length co48] 26 (0, 0)) (by (with_reducible repeat (first | refine blk_drewN ?_ _ | refine blk_drew ?_ | refine blk_alloc ?_ _)); exact BK223.out)) : gb223 ≠ gb230)); have n21_ := Aside0.mk ((by rw [hg]; exact Nat.ne_of_gt (blk_lt (g := gb223) (o := .cells #[.slice Ao44 t217.length co44, .slice Ao48 t220.length co48] 26 (0, 0)) (by (with_reducible repeat (first | refine blk_drewN ?_ _ | refine blk_drew ?_ | refine blk_alloc ?_ _)); exact BK223.out)) : gb230 ≠ gb223)); clear HO203; clear HO206; clear HO209; clear HO212; clear HO215; clear HO219; clear HO222; clear HO226; clear HO229; clear BK197; clear BK198; clear BK223; clear HB; have HO203 := n0_; have HO206 := n1_; have HO209 := n2_; have HO212 := n3_; have HO215 := n4_; have HO219 := n5_; have HO222 := n6_; have HO226 := n7_; have HO229 := n8_; have BK197 := n9_; have BK198 := n10_; have BK223 := n11_; have HB := n12_; have BK230 := n13_; have GW230 := n14_; have GE230 := n15_; have NB197_230 := n16_; have NB230_197 := n17_; have NB198_230 := n18_; have NB230_198 := n19_; have NB223_230 := n20_; have NB230_223 := n21_; clear n0_ n1_ n2_ n3_ n4_ n5_ n6_ n7_ n8_ n9_ n10_ n11_ n12_ n13_ n14_ n15_ n16_ n17_ n18_ n19_ n20_ n21_; clear hb hbox hg; obtain ⟨Ao52, co52, eo52⟩ := Kd.R_slice HO226.out; subst eo52; have hnb53 := NB230_197.out; have hnc53 := NB197_230.out; have hnb54 := NB230_198.out; have hnc54 := NB198_230.out; have hnb55 := NB230_223.out; have hnc55 := NB223_230.out; have hcz56_0 : w51.cell? ⟨gb230, 0, none⟩ = some (.slice none 0 0) := (blk_cell BK230.out 0).trans rfl; have hcz56_1 : w51.cell? ⟨gb230, 1, none⟩ = some (.slice none 0 0) := (blk_cell BK230.out 1).trans rfl; have hfz56_0 := blk_frozen BK230.out 0; have hfz56_1 := blk_frozen BK230.out 1; obtain ⟨Ao57, co57, eo57⟩ := Kd.R_slice HO229.out; subst eo57; have hcz58_0 : w51.cell? ⟨gb223, 0, none⟩ = some (.slice Ao44 t217.length co44) := (blk_cell BK223.out 0).trans rfl; have hcz58_1 : w51.cell? ⟨gb223, 1, none⟩ = some (.slice Ao48 t220.length co48) := (blk_cell BK223.out 1).trans rfl; have hfz58_0 := blk_frozen BK223.out 0; have hfz58_1 := blk_frozen BK223.out 1) | ((with_reducible refine gate_callee (f := 19) rfl ?_); refine goesL_ (some 42) rfl rfl Try.func19 (by kernel_rfl) rfl #[.agg #[.slice Ao44 t217.length co44, .slice Ao48 t220.length co48], .agg #[.slice Ao52 t224.length co52, .slice Ao57 t227.length co57]] rfl (by (try simp only [List.map_toArray, List.map_cons, List.map_nil]); first | done | rfl | (simp only [List.length_drop, List.length_take]; rfl)) ?_; (with_reducible refine (impl_Fit.calls k _ _ t217 _ _ t220 _ _ t224 _ _ t227 t231 t234 _ ?side1 ?side2 ?side3 ?side4 ?side5 ?side6 ?side7 ?side8 A24.out).mono ?_); (case side1 => refine (Kd.R_reads' (e := 3) (base := w.heap.size) (ok := fun k_ => (((((((some k_ ≠ (.slice Ao48 t220.length co48 : Value).ownBlock ∧ some k_ ≠ (.slice Ao36 t201.length co36 : Value).ownBlock) ∧ some k_ ≠ (.slice Ao37 t204.length co37 : Value).ownBlock) ∧ some k_ ≠ (.slice Ao38 t207.length co38 : Value).ownBlock) ∧ some k_ ≠ (.slice Ao39 t210.length co39 : Value).ownBlock) ∧ some k_ ≠ (v214 : Value).ownBlock) ∧ some k_ ≠ (.slice Ao52 t224.length co52 : Value).ownBlock) ∧ some k_ ≠ (.slice Ao57 t227.length co57 : Value).ownBlock)) (n := t217.length) (c := co44) ?_).2.2; exact (by (with_reducible repeat (first | apply Kd.R_alloc | apply Kd.R_drewN | apply Kd.R_drew)); exact (Kd.R_mono (Kd.R_far (p := ⟨gb230, 1, none⟩) (Kd.R_far (p := ⟨gb230, 0, none⟩) (Kd.R_types HO219.out BK230.out (by decide)) (fun _ hk => hk.2) (.slice Ao52 t224.length co52)) (fun _ hk => hk.2) (.slice Ao57 t227.length co57)) (fun _ h_ => h_.1)))); (case side2 => exact (Kd.R_reads' HO219.out).2.1); (case side3 => refine (Kd.R_reads' (e := 3) (base := w.heap.size) (ok := fun k_ => (((((((some k_ ≠ (.slice Ao44 t217.length co44 : Value).ownBlock ∧ some k_ ≠ (.slice Ao36 t201.length co36 : Value).ownBlock) ∧ some k_ ≠ (.slice Ao37 t204.length co37 : Value).ownBlock) ∧ some k_ ≠ (.slice Ao38 t207.length co38 : Value).ownBlock) ∧ some k_ ≠ (.slice Ao39 t210.length co39 : Value).ownBlock) ∧ some k_ ≠ (v214 : Value).ownBlock) ∧ some k_ ≠ (.slice Ao52 t224.length co52 : Value).ownBlock) ∧ some k_ ≠ (.slice Ao57 t227.length co57 : Value).ownBlock)) (n := t220.length) (c := co48) ?_).2.2; exact (by (with_reducible repeat (first | apply Kd.R_alloc | apply Kd.R_drewN | apply Kd.R_drew)); exact (Kd.R_mono (Kd.R_far (p := ⟨gb230, 1, none⟩) (Kd.R_far (p := ⟨gb230, 0, none⟩) (Kd.R_types HO222.out BK230.out (by decide)) (fun _ hk => hk.2) (.slice Ao52 t224.length co52)) (fun _ hk => hk.2) (.slice Ao57 t227.length co57)) (fun _ h_ => h_.1)))); (case side4 => exact (Kd.R_reads' HO222.out).2.1); (case side5 => refine (Kd.R_reads' (e := 3) (base := w.heap.size) (ok := fun k_ => (((((((some k_ ≠ (.slice Ao57 t227.length co57 : Value).ownBlock ∧ some k_ ≠ (.slice Ao36 t201.length co36 : Value).ownBlock) ∧ some k_ ≠ (.slice Ao37 t204.length co37 : Value).ownBlock) ∧ some k_ ≠ (.slice Ao38 t207.length co38 : Value).ownBlock) ∧ some k_ ≠ (.slice Ao39 t210.length co39 : Value).ownBlock) ∧ some k_ ≠ (v214 : Value).ownBlock) ∧ some k_ ≠ (.slice Ao44 t217.length co44 : Value).ownBlock) ∧ some k_ ≠ (.slice Ao48 t220.length co48 : Value).ownBlock)) (n := t224.length) (c := co52) ?_).2.2; exact (by (with_reducible repeat (first | apply Kd.R_alloc | apply Kd.R_drewN | apply Kd.R_drew)); exact (Kd.R_mono (Kd.R_far (p := ⟨gb230, 1, none⟩) (Kd.R_far (p := ⟨gb230, 0, none⟩) (Kd.R_types HO226.out BK230.out (by decide)) (fun _ hk => hk.2) (.slice Ao52 t224.length co52)) (fun _ hk => hk.2) (.slice Ao57 t227.length co57)) (fun _ h_ => h_.1)))); (case side6 => exact (Kd.R_reads' HO226.out).2.1); (case side7 => refine (Kd.R_reads' (e := 3) (base := w.heap.size) (ok := fun k_ => (((((((some k_ ≠ (.slice Ao52 t224.length co52 : Value).ownBlock ∧ some k_ ≠ (.slice Ao36 t201.length co36 : Value).ownBlock) ∧ some k_ ≠ (.slice Ao37 t204.length co37 : Value).ownBlock) ∧ some k_ ≠ (.slice Ao38 t207.length co38 : Value).ownBlock) ∧ some k_ ≠ (.slice Ao39 t210.length co39 : Value).ownBlock) ∧ some k_ ≠ (v214 : Value).ownBlock) ∧ some k_ ≠ (.slice Ao44 t217.length co44 : Value).ownBlock) ∧ some k_ ≠ (.slice Ao48 t220.length co48 : Value).ownBlock)) (n := t227.length) (c := co57) ?_).2.2; exact (by (with_reducible repeat (first | apply Kd.R_alloc | apply Kd.R_drewN | apply Kd.R_drew)); exact (Kd.R_mono (Kd.R_far (p := ⟨gb230, 1, none⟩) (Kd.R_far (p := ⟨gb230, 0, none⟩) (Kd.R_types HO229.out BK230.out (by decide)) (fun _ hk => hk.2) (.slice Ao52 t224.length co52)) (fun _ hk => hk.2) (.slice Ao57 t227.length co57)) (fun _ h_ => h_.1)))); (case side8 => exact (Kd.R_reads' HO229.out).2.1); rintro e w59 ⟨v232, rfl, ho0, hb⟩; refine ⟨_, rfl, ?_⟩; have n0_ := Aside0.mk (Kd.R_elder' (by (with_reducible repeat (first | apply Kd.R_alloc | apply Kd.R_drewN | apply Kd.R_drew)); exact (Kd.R_mono (Kd.R_far (p := ⟨gb230, 1, none⟩) (Kd.R_far (p := ⟨gb230, 0, none⟩) (Kd.R_types HO203.out BK230.out (by decide)) (fun _ hk => hk.2) (.slice Ao52 t224.length co52)) (fun _ hk => hk.2) (.slice Ao57 t227.length co57)) (fun _ h_ => h_.1))) (Kd.R_base ho0) hb); have n1_ := Aside0.mk (Kd.R_elder' (by (with_reducible repeat (first | apply Kd.R_alloc | apply Kd.R_drewN | apply Kd.R_drew)); exact (Kd.R_mono (Kd.R_far (p := ⟨gb230, 1, none⟩) (Kd.R_far (p := ⟨gb230, 0, none⟩) (Kd.R_types HO206.out BK230.out (by decide)) (fun _ hk => hk.2) (.slice Ao52 t224.length co52)) (fun _ hk => hk.2) (.slice Ao57 t227.length co57)) (fun _ h_ => h_.1))) (Kd.R_base ho0) hb); have n2_ := Aside0.mk (Kd.R_elder' (by (with_reducible repeat (first | apply Kd.R_alloc | apply Kd.R_drewN | apply Kd.R_drew)); exact (Kd.R_mono (Kd.R_far (p := ⟨gb230, 1, none⟩) (Kd.R_far (p := ⟨gb230, 0, none⟩) (Kd.R_types HO209.out BK230.out (by decide)) (fun _ hk => hk.2) (.slice Ao52 t224.length co52)) (fun _ hk => hk.2) (.slice Ao57 t227.length co57)) (fun _ h_ => h_.1))) (Kd.R_base ho0) hb); have n3_ := Aside0.mk (Kd.R_elder' (by (with_reducible repeat (first | apply Kd.R_alloc | apply Kd.R_drewN | apply Kd.R_drew)); exact (Kd.R_mono (Kd.R_far (p := ⟨gb230, 1, none⟩) (Kd.R_far (p := ⟨gb230, 0, none⟩) (Kd.R_types HO212.out BK230.out (by decide)) (fun _ hk => hk.2) (.slice Ao52 t224.length co52)) (fun _ hk => hk.2) (.slice Ao57 t227.length co57)) (fun _ h_ => h_.1))) (Kd.R_base ho0) hb); have n4_ := Aside0.mk (Kd.R_elder' (by (with_reducible repeat (first | apply Kd.R_alloc | apply Kd.R_drewN | apply Kd.R_drew)); exact (Kd.R_mono (Kd.R_far (p := ⟨gb230, 1, none⟩) (Kd.R_far (p := ⟨gb230, 0, none⟩) (Kd.R_types HO215.out BK230.out (by decide)) (fun _ hk => hk.2) (.slice Ao52 t224.length co52)) (fun _ hk => hk.2) (.slice Ao57 t227.length co57)) (fun _ h_ => h_.1))) (Kd.R_base ho0) hb); have n5_ := Aside0.mk (Kd.R_elder' (by (with_reducible repeat (first | apply Kd.R_alloc | apply Kd.R_drewN | apply Kd.R_drew)); exact (Kd.R_mono (Kd.R_far (p := ⟨gb230, 1, none⟩) (Kd.R_far (p := ⟨gb230, 0, none⟩) (Kd.R_types HO219.out BK230.out (by decide)) (fun _ hk => hk.2) (.slice Ao52 t224.length co52)) (fun _ hk => hk.2) (.slice Ao57 t227.length co57)) (fun _ h_ => h_.1))) (Kd.R_base ho0) hb); have n6_ := Aside0.mk (Kd.R_elder' (by (with_reducible repeat (first | apply Kd.R_alloc | apply Kd.R_drewN | apply Kd.R_drew)); exact (Kd.R_mono (Kd.R_far (p := ⟨gb230, 1, none⟩) (Kd.R_far (p := ⟨gb230, 0, none⟩) (Kd.R_types HO222.out BK230.out (by decide)) (fun _ hk => hk.2) (.slice Ao52 t224.length co52)) (fun _ hk => hk.2) (.slice Ao57 t227.length co57)) (fun _ h_ => h_.1))) (Kd.R_base ho0) hb); have n7_ := Aside0.mk (Kd.R_elder' (by (with_reducible repeat (first | apply Kd.R_alloc | apply Kd.R_drewN | apply Kd.R_drew)); exact (Kd.R_mono (Kd.R_far (p := ⟨gb230, 1, none⟩) (Kd.R_far (p := ⟨gb230, 0, none⟩) (Kd.R_types HO226.out BK230.out (by decide)) (fun _ hk => hk.2) (.slice Ao52 t224.length co52)) (fun _ hk => hk.2) (.slice Ao57 t227.length co57)) (fun _ h_ => h_.1))) (Kd.R_base ho0) hb); have n8_ := Aside0.mk (Kd.R_elder' (by (with_reducible repeat (first | apply Kd.R_alloc | apply Kd.R_drewN | apply Kd.R_drew)); exact (Kd.R_mono (Kd.R_far (p := ⟨gb230, 1, none⟩) (Kd.R_far (p := ⟨gb230, 0, none⟩) (Kd.R_types HO229.out BK230.out (by decide)) (fun _ hk => hk.2) (.slice Ao52 t224.length co52)) (fun _ hk => hk.2) (.slice Ao57 t227.length co57)) (fun _ h_ => h_.1))) (Kd.R_base ho0) hb); have n9_ := Aside0.mk (Kd.R_lower (Kd.R_new' (Kd.R_new' (Kd.R_new' (Kd.R_new' (Kd.R_new' (Kd.R_new' (Kd.R_new' (Kd.R_new' (Kd.R_new' ho0 (Kd.R_lt (by (with_reducible repeat (first | apply Kd.R_alloc | apply Kd.R_drewN | apply Kd.R_drew)); exact (Kd.R_mono (Kd.R_far (p := ⟨gb230, 1, none⟩) (Kd.R_far (p := ⟨gb230, 0, none⟩) (Kd.R_types HO203.out BK230.out (by decide)) (fun _ hk => hk.2) (.slice Ao52 t224.length co52)) (fun _ hk => hk.2) (.slice Ao57 t227.length co57)) (fun _ h_ => h_.1))))) (Kd.R_lt (by (with_reducible repeat (first | apply Kd.R_alloc | apply Kd.R_drewN | apply Kd.R_drew)); exact (Kd.R_mono (Kd.R_far (p := ⟨gb230, 1, none⟩) (Kd.R_far (p := ⟨gb230, 0, none⟩) (Kd.R_types HO206.out BK230.out (by decide)) (fun _ hk => hk.2) (.slice Ao52 t224.length co52)) (fun _ hk => hk.2) (.slice Ao57 t227.length co57)) (fun _ h_ => h_.1))))) (Kd.R_lt (by (with_reducible repeat (first | apply Kd.R_alloc | apply Kd.R_drewN | apply Kd.R_drew)); exact (Kd.R_mono (Kd.R_far (p := ⟨gb230, 1, none⟩) (Kd.R_far (p := ⟨gb230, 0, none⟩) (Kd.R_types HO209.out BK230.out (by decide)) (fun _ hk => hk.2) (.slice Ao52 t224.length co52)) (fun _ hk => hk.2) (.slice Ao57 t227.length co57)) (fun _ h_ => h_.1))))) (Kd.R_lt (by (with_reducible repeat (first | apply Kd.R_alloc | apply Kd.R_drewN | apply Kd.R_drew)); exact (Kd.R_mono (Kd.R_far (p := ⟨gb230, 1, none⟩) (Kd.R_far (p := ⟨gb230, 0, none⟩) (Kd.R_types HO212.out BK230.out (by decide)) (fun _ hk => hk.2) (.slice Ao52 t224.length co52)) (fun _ hk => hk.2) (.slice Ao57 t227.length co57)) (fun _ h_ => h_.1))))) (Kd.R_lt (by (with_reducible repeat (first | apply Kd.R_alloc | apply Kd.R_drewN | apply Kd.R_drew)); exact (Kd.R_mono (Kd.R_far (p := ⟨gb230, 1, none⟩) (Kd.R_far (p := ⟨gb230, 0, none⟩) (Kd.R_types HO215.out BK230.out (by decide)) (fun _ hk => hk.2) (.slice Ao52 t224.length co52)) (fun _ hk => hk.2) (.slice Ao57 t227.length co57)) (fun _ h_ => h_.1))))) (Kd.R_lt (by (with_reducible repeat (first | apply Kd.R_alloc | apply Kd.R_drewN | apply Kd.R_drew)); exact (Kd.R_mono (Kd.R_far (p := ⟨gb230, 1, none⟩) (Kd.R_far (p := ⟨gb230, 0, none⟩) (Kd.R_types HO219.out BK230.out (by decide)) (fun _ hk => hk.2) (.slice Ao52 t224.length co52)) (fun _ hk => hk.2) (.slice Ao57 t227.length co57)) (fun _ h_ => h_.1))))) (Kd.R_lt (by (with_reducible repeat (first | apply Kd.R_alloc | apply Kd.R_drewN | apply Kd.R_drew)); exact (Kd.R_mono (Kd.R_far (p := ⟨gb230, 1, none⟩) (Kd.R_far (p := ⟨gb230, 0, none⟩) (Kd.R_types HO222.out BK230.out (by decide)) (fun _ hk => hk.2) (.slice Ao52 t224.length co52)) (fun _ hk => hk.2) (.slice Ao57 t227.length co57)) (fun _ h_ => h_.1))))) (Kd.R_lt (by (with_reducible repeat (first | apply Kd.R_alloc | apply Kd.R_drewN | apply Kd.R_drew)); exact (Kd.R_mono (Kd.R_far (p := ⟨gb230, 1, none⟩) (Kd.R_far (p := ⟨gb230, 0, none⟩) (Kd.R_types HO226.out BK230.out (by decide)) (fun _ hk => hk.2) (.slice Ao52 t224.length co52)) (fun _ hk => hk.2) (.slice Ao57 t227.length co57)) (fun _ h_ => h_.1))))) (Kd.R_lt (by (with_reducible repeat (first | apply Kd.R_alloc | apply Kd.R_drewN | apply Kd.R_drew)); exact (Kd.R_mono (Kd.R_far (p := ⟨gb230, 1, none⟩) (Kd.R_far (p := ⟨gb230, 0, none⟩) (Kd.R_types HO229.out BK230.out (by decide)) (fun _ hk => hk.2) (.slice Ao52 t224.length co52)) (fun _ hk => hk.2) (.slice Ao57 t227.length co57)) (fun _ h_ => h_.1))))) (below_size (by repeat (first | (with_reducible first | exact HB.out | apply below_alloc | apply pw_below_drewN | apply below_drew1 | refine below_set ?_ GE197.out | refine below_set ?_ GE198.out | refine below_set ?_ GE223.out | refine below_set ?_ GE230.out) | exact HB.out)))); have n10_ := Aside0.mk (blk_below (g := gb197) (o := .cells #[.slice A0_0 l0_0.length c0_0, .slice A0_1 l0_1.length c0_1] 37 (0, 0)) (by (with_reducible repeat (first | refine blk_drewN ?_ _ | refine blk_drew ?_ | refine blk_alloc ?_ _)); refine blk_far ?_ NB197_230.out _; (with_reducible repeat (first | refine blk_drewN ?_ _ | refine blk_drew ?_ | refine blk_alloc ?_ _)); refine blk_far ?_ NB197_230.out _; (with_reducible repeat (first | refine blk_drewN ?_ _ | refine blk_drew ?_ | refine blk_alloc ?_ _)); exact BK197.out) hb); have n11_ := Aside0.mk (blk_below (g := gb198) (o := .cells #[.slice A1_0 l1_0.length c1_0, .slice A1_1 l1_1.length c1_1] 37 (0, 0)) (by (with_reducible repeat (first | refine blk_drewN ?_ _ | refine blk_drew ?_ | refine blk_alloc ?_ _)); refine blk_far ?_ NB198_230.out _; (with_reducible repeat (first | refine blk_drewN ?_ _ | refine blk_drew ?_ | refine blk_alloc ?_ _)); refine blk_far ?_ NB198_230.out _; (with_reducible repeat (first | refine blk_drewN ?_ _ | refine blk_drew ?_ | refine blk_alloc ?_ _)); exact BK198.out) hb); have n12_ := Aside0.mk (blk_below (g := gb223) (o := .cells #[.slice Ao44 t217.length co44, .slice Ao48 t220.length co48] 26 (0, 0)) (by (with_reducible repeat (first | refine blk_drewN ?_ _ | refine blk_drew ?_ | refine blk_alloc ?_ _)); refine blk_far ?_ NB223_230.out _; (with_reducible repeat (first | refine blk_drewN ?_ _ | refine blk_drew ?_ | refine blk_alloc ?_ _)); refine blk_far ?_ NB223_230.out _; (with_reducible repeat (first | refine blk_drewN ?_ _ | refine blk_drew ?_ | refine blk_alloc ?_ _)); exact BK223.out) hb); have n13_ := Aside0.mk (blk_below (g := gb230) (o := .cells #[.slice Ao52 t224.length co52, .slice Ao57 t227.length co57] 26 (0, 0)) (by (with_reducible repeat (first | refine blk_drewN ?_ _ | refine blk_drew ?_ | refine blk_alloc ?_ _)); refine blk_put (cs := #[.slice Ao52 t224.length co52, .slice none 0 0]) ?_ 1 _ rfl; (with_reducible repeat (first | refine blk_drewN ?_ _ | refine blk_drew ?_ | refine blk_alloc ?_ _)); refine blk_put (cs := #[.slice none 0 0, .slice none 0 0]) ?_ 0 _ rfl; (with_reducible repeat (first | refine blk_drewN ?_ _ | refine blk_drew ?_ | refine blk_alloc ?_ _)); exact BK230.out) hb); have n14_ := Aside0.mk (below_step (by repeat (first | (with_reducible first | exact HB.out | apply below_alloc | apply pw_below_drewN | apply below_drew1 | refine below_set ?_ GE197.out | refine below_set ?_ GE198.out | refine below_set ?_ GE223.out | refine below_set ?_ GE230.out) | exact HB.out)) hb); clear HO203; clear HO206; clear HO209; clear HO212; clear HO215; clear HO219; clear HO222; clear HO226; clear HO229; clear BK197; clear BK198; clear BK223; clear BK230; clear HB; have HO203 := n0_; have HO206 := n1_; have HO209 := n2_; have HO212 := n3_; have HO215 := n4_; have HO219 := n5_; have HO222 := n6_; have HO226 := n7_; have HO229 := n8_; have HO233 := n9_; have BK197 := n10_; have BK198 := n11_; have BK223 := n12_; have BK230 := n13_; have HB := n14_; clear n0_ n1_ n2_ n3_ n4_ n5_ n6_ n7_ n8_ n9_ n10_ n11_ n12_ n13_ n14_; (try clear hb); (try clear hb2); (try clear hk); (try clear hi); (try clear ho0)))
      (try simp only [Act.put, List.setIfInBounds_toArray, List.set_cons_zero, List.set_cons_succ])
      go_cut [53] (fun v53 wc => ∃ (kq : Nat) (x53_24 : Bool), v53 = .bool x53_24 ∧ Aside0 (laws_FnExactFit.j0 kq t213 t216 t231 t234 x53_24 l0_0 l0_1 l1_0 l1_1 t217 t220 t224 t227 = some r) ∧ Aside0 (kq ≤ k) ∧ Aside0 (Kd.R (Kd.int .i64) 3 wc w.heap.size (fun k_ => some k_ ≠ (v232 : Value).ownBlock ∧ some k_ ≠ ((.slice Ao44 t217.length co44) : Value).ownBlock ∧ some k_ ≠ ((.slice Ao48 t220.length co48) : Value).ownBlock ∧ some k_ ≠ ((.slice Ao52 t224.length co52) : Value).ownBlock ∧ some k_ ≠ ((.slice Ao57 t227.length co57) : Value).ownBlock) v214 t213) ∧ Aside0 (Kd.R (Kd.int .i64) 3 wc w.heap.size (fun k_ => some k_ ≠ (v214 : Value).ownBlock ∧ some k_ ≠ ((.slice Ao44 t217.length co44) : Value).ownBlock ∧ some k_ ≠ ((.slice Ao48 t220.length co48) : Value).ownBlock ∧ some k_ ≠ ((.slice Ao52 t224.length co52) : Value).ownBlock ∧ some k_ ≠ ((.slice Ao57 t227.length co57) : Value).ownBlock) v232 t231) ∧ Aside0 (Kd.R (Kd.int .i64) 3 wc w.heap.size (fun k_ => some k_ ≠ (v214 : Value).ownBlock ∧ some k_ ≠ (v232 : Value).ownBlock ∧ some k_ ≠ ((.slice Ao48 t220.length co48) : Value).ownBlock ∧ some k_ ≠ ((.slice Ao52 t224.length co52) : Value).ownBlock ∧ some k_ ≠ ((.slice Ao57 t227.length co57) : Value).ownBlock) (.slice Ao44 t217.length co44) t217) ∧ Aside0 (Kd.R (Kd.int .i64) 3 wc w.heap.size (fun k_ => some k_ ≠ (v214 : Value).ownBlock ∧ some k_ ≠ (v232 : Value).ownBlock ∧ some k_ ≠ ((.slice Ao44 t217.length co44) : Value).ownBlock ∧ some k_ ≠ ((.slice Ao52 t224.length co52) : Value).ownBlock ∧ some k_ ≠ ((.slice Ao57 t227.length co57) : Value).ownBlock) (.slice Ao48 t220.length co48) t220) ∧ Aside0 (Kd.R (Kd.int .i64) 3 wc w.heap.size (fun k_ => some k_ ≠ (v214 : Value).ownBlock ∧ some k_ ≠ (v232 : Value).ownBlock ∧ some k_ ≠ ((.slice Ao44 t217.length co44) : Value).ownBlock ∧ some k_ ≠ ((.slice Ao48 t220.length co48) : Value).ownBlock ∧ some k_ ≠ ((.slice Ao57 t227.length co57) : Value).ownBlock) (.slice Ao52 t224.length co52) t224) ∧ Aside0 (Kd.R (Kd.int .i64) 3 wc w.heap.size (fun k_ => some k_ ≠ (v214 : Value).ownBlock ∧ some k_ ≠ (v232 : Value).ownBlock ∧ some k_ ≠ ((.slice Ao44 t217.length co44) : Value).ownBlock ∧ some k_ ≠ ((.slice Ao48 t220.length co48) : Value).ownBlock ∧ some k_ ≠ ((.slice Ao52 t224.length co52) : Value).ownBlock) (.slice Ao57 t227.length co57) t227) ∧ Aside0 (wc.heap[gb197]? = some (.cells #[(.slice A0_0 l0_0.length c0_0), (.slice A0_1 l0_1.length c0_1)] 37 (0, 0))) ∧ Aside0 (wc.heap[gb198]? = some (.cells #[(.slice A1_0 l1_0.length c1_0), (.slice A1_1 l1_1.length c1_1)] 37 (0, 0))) ∧ Aside0 (wc.heap[gb223]? = some (.cells #[(.slice Ao44 t217.length co44), (.slice Ao48 t220.length co48)] 26 (0, 0))) ∧ Aside0 (wc.heap[gb230]? = some (.cells #[(.slice Ao52 t224.length co52), (.slice Ao57 t227.length co57)] 26 (0, 0))) ∧ Aside0 (Below w.heap.size w wc))
      case first =>
        have H := HC25.out
        clear HC25
        replace H := Option.bind_eq_some_iff.mp H
        obtain ⟨t235, A600, H⟩ := H
        replace H : (if t235 = true then (laws_FnExactFit.j0 k t213 t216 t231 t234 (t234 != t216) l0_0 l0_1 l1_0 l1_1 t217 t220 t224 t227) else (laws_FnExactFit.j0 k t213 t216 t231 t234 true l0_0 l0_1 l1_0 l1_1 t217 t220 t224 t227)) = some r := H
        have A60 := Aside0.mk A600
        clear A600
        by_cases c61 : t235 = true
        · subst c61
          have H1 : (laws_FnExactFit.j0 k t213 t216 t231 t234 (t234 != t216) l0_0 l0_1 l1_0 l1_1 t217 t220 t224 t227) = some r := by rw [if_pos rfl] at H; exact H
          clear H
          have H := H1
          clear H1
          have H' := Aside0.mk H
          clear H
          obtain ⟨Ao62, co62, eo62⟩ := Kd.R_slice HO233.out
          subst eo62
          obtain ⟨Ao63, co63, eo63⟩ := Kd.R_slice HO215.out
          subst eo63
          go_wp2_with (first | ((with_reducible refine gate_callee (f := 29) rfl ?_); refine goesL_ (some 47) rfl rfl Try.func29 (by kernel_rfl) rfl #[.slice Ao62 t231.length co62, .slice Ao63 t213.length co63] rfl (by (try simp only [List.map_toArray, List.map_cons, List.map_nil]); first | done | rfl | (simp only [List.length_drop, List.length_take]; rfl)) ?_; (with_reducible refine (laws_eqIntS.calls k _ _ t231 _ _ t213 true _ ?side1 ?side2 ?side3 ?side4 A60.out).mono ?_); (case side1 => repeat (first | exact (Kd.R_reads' HO233.out).2.2 | (with_reducible refine Kd.C_alloc ?_ _) | (with_reducible refine Kd.C_drewN ?_ _) | (with_reducible refine Kd.C_drew ?_))); (case side2 => exact (Kd.R_reads' HO233.out).2.1); (case side3 => repeat (first | exact (Kd.R_reads' HO215.out).2.2 | (with_reducible refine Kd.C_alloc ?_ _) | (with_reducible refine Kd.C_drewN ?_ _) | (with_reducible refine Kd.C_drew ?_))); (case side4 => exact (Kd.R_reads' HO215.out).2.1); rintro e w' ⟨rfl, ⟨nd, rfl⟩⟩; refine ⟨_, rfl, ?_⟩))
          go_meet
          case rel => exact ⟨_, ((t234 != t216)), (by first | rfl | (simp; done) | (simp [*]; done)), H', ⟨by first | omega | exact Nat.le_refl _⟩, ⟨by (with_reducible repeat (first | apply Kd.R_alloc | apply Kd.R_drewN | apply Kd.R_drew)); exact Kd.R_mono HO215.out (fun _ hk => ⟨hk.2, ⟨hk.1.1.1.1.2, ⟨hk.1.1.1.2, ⟨hk.1.1.2, hk.1.2⟩⟩⟩⟩)⟩, ⟨by (with_reducible repeat (first | apply Kd.R_alloc | apply Kd.R_drewN | apply Kd.R_drew)); exact Kd.R_mono HO233.out (fun _ hk => ⟨hk.1.1.1.1.2, ⟨hk.1.1.1.2, ⟨hk.1.1.2, ⟨hk.1.2, hk.2⟩⟩⟩⟩)⟩, ⟨by (with_reducible repeat (first | apply Kd.R_alloc | apply Kd.R_drewN | apply Kd.R_drew)); exact Kd.R_mono HO219.out (fun _ hk => ⟨hk.1.1.1.2, ⟨hk.2, ⟨hk.1.1.1.1.1.1.1.1, ⟨hk.1.1.2, hk.1.2⟩⟩⟩⟩)⟩, ⟨by (with_reducible repeat (first | apply Kd.R_alloc | apply Kd.R_drewN | apply Kd.R_drew)); exact Kd.R_mono HO222.out (fun _ hk => ⟨hk.1.1.1.2, ⟨hk.2, ⟨hk.1.1.1.1.1.1.1.1, ⟨hk.1.1.2, hk.1.2⟩⟩⟩⟩)⟩, ⟨by (with_reducible repeat (first | apply Kd.R_alloc | apply Kd.R_drewN | apply Kd.R_drew)); exact Kd.R_mono HO226.out (fun _ hk => ⟨hk.1.1.1.2, ⟨hk.2, ⟨hk.1.1.2, ⟨hk.1.2, hk.1.1.1.1.1.1.1.1⟩⟩⟩⟩)⟩, ⟨by (with_reducible repeat (first | apply Kd.R_alloc | apply Kd.R_drewN | apply Kd.R_drew)); exact Kd.R_mono HO229.out (fun _ hk => ⟨hk.1.1.1.2, ⟨hk.2, ⟨hk.1.1.2, ⟨hk.1.2, hk.1.1.1.1.1.1.1.1⟩⟩⟩⟩)⟩, ⟨by (with_reducible repeat (first | refine blk_drewN ?_ _ | refine blk_drew ?_ | refine blk_alloc ?_ _)); exact BK197.out⟩, ⟨by (with_reducible repeat (first | refine blk_drewN ?_ _ | refine blk_drew ?_ | refine blk_alloc ?_ _)); exact BK198.out⟩, ⟨by (with_reducible repeat (first | refine blk_drewN ?_ _ | refine blk_drew ?_ | refine blk_alloc ?_ _)); exact BK223.out⟩, ⟨by (with_reducible repeat (first | refine blk_drewN ?_ _ | refine blk_drew ?_ | refine blk_alloc ?_ _)); exact BK230.out⟩, ⟨by repeat (first | (with_reducible first | exact HB.out | apply below_alloc | apply pw_below_drewN | apply below_drew1 | refine below_set ?_ GE197.out | refine below_set ?_ GE198.out | refine below_set ?_ GE223.out | refine below_set ?_ GE230.out) | exact HB.out)⟩⟩
        · replace c61 := Bool.eq_false_iff.mpr c61
          subst c61
          have H1 : (laws_FnExactFit.j0 k t213 t216 t231 t234 true l0_0 l0_1 l1_0 l1_1 t217 t220 t224 t227) = some r := by rw [if_neg (show ¬ (false = true) by decide)] at H; exact H
          clear H
          have H := H1
          clear H1
          have hz_ : ∀ kz, laws_FnExactFit.j0 kz t213 t216 t231 t234 true l0_0 l0_1 l1_0 l1_1 t217 t220 t224 t227 = some r → r = false := by intro kz hz; cases kz with | zero => exact absurd hz (by simp [laws_FnExactFit.j0]) | succ kz => simp only [laws_FnExactFit.j0] at hz; first | (rw [if_pos rfl] at hz; exact (Option.some.inj hz).symm) | (simp at hz; exact hz.symm) | (simp at hz; exact hz)
          exact absurd (HT.out.symm.trans (hz_ _ H)) (by decide)
      case rest =>
        clear HC25
        try clear c1
        try clear c2
        try clear p2
        try clear c3
        try clear c4
        try clear c4b0
        try clear c5
        try clear c6
        try clear c7
        try clear c8
        try clear c11
        try clear c11b0
        try clear c14
        try clear c19
        try clear c23
        try clear c25
        try clear c28
        try clear c29
        try clear c38
        try clear c45
        try clear c46
        try clear c53
        try clear c54
        try clear c55
        try clear c61
        try clear hcz15_0
        try clear hcz15_1
        try clear hcz17_0
        try clear hcz17_1
        try clear hcz29_0
        try clear hcz29_1
        try clear hcz31_0
        try clear hcz31_1
        try clear hcz41_0
        try clear hcz41_1
        try clear hcz47_0
        try clear hcz47_1
        try clear hcz49_0
        try clear hcz49_1
        try clear hcz56_0
        try clear hcz56_1
        try clear hcz58_0
        try clear hcz58_1
        try clear hcz8_0
        try clear hcz8_1
        try clear hfz15_0
        try clear hfz15_1
        try clear hfz17_0
        try clear hfz17_1
        try clear hfz29_0
        try clear hfz29_1
        try clear hfz31_0
        try clear hfz31_1
        try clear hfz41_0
        try clear hfz41_1
        try clear hfz47_0
        try clear hfz47_1
        try clear hfz49_0
        try clear hfz49_1
        try clear hfz56_0
        try clear hfz56_1
        try clear hfz58_0
        try clear hfz58_1
        try clear hfz8_0
        try clear hfz8_1
        obtain ⟨kq, x53_24, rfl, HA, HJ24, HO_6, HO_10, HO_224000, HO_224001, HO_231000, HO_231001, BK197, BK198, BK223, BK230, HB⟩ := hcut
        cases kq with
        | zero => exact absurd HA.out (by simp [laws_FnExactFit.j0])
        | succ kj24 =>
          have H := HA.out
          clear HA
          simp only [laws_FnExactFit.j0] at H
          by_cases c64 : x53_24 = true
          · subst c64
            have H1 : (some false) = some r := by rw [if_pos rfl] at H; exact H
            clear H
            have H := H1
            clear H1
            obtain rfl := Option.some.inj H
            exact absurd HT.out (by decide)
          · replace c64 := Bool.eq_false_iff.mpr c64
            subst c64
            have H1 : ((laws_toArray.f kj24 l0_0 l0_1).bind fun bt236 => ((laws_eqArray.f kj24 t217 t220 bt236.1 bt236.2).bind fun t242 => (if t242 = true then ((laws_toArray.f kj24 l1_0 l1_1).bind fun bt243 => ((laws_eqArray.f kj24 t224 t227 bt243.1 bt243.2).bind fun t249 => (if t249 = true then ((laws_markArray.f kj24 t217 t220 1).bind fun bt250 => ((laws_markArray.f kj24 t224 t227 bt250.1).bind fun bt253 => (if bt253.1 < 0 then (laws_FnExactFit.j1 kj24 t213 t216 t231 true l0_0 l0_1 l1_0 l1_1) else ((laws_eqIntS.f kj24 t231 t213).bind fun t256 => (if t256 = true then (laws_FnExactFit.j1 kj24 t213 t216 t231 (t234 != t216) l0_0 l0_1 l1_0 l1_1) else (laws_FnExactFit.j1 kj24 t213 t216 t231 true l0_0 l0_1 l1_0 l1_1)))))) else (some false)))) else (some false)))) = some r := by rw [if_neg (show ¬ (false = true) by decide)] at H; exact H
            clear H
            have H := H1
            clear H1
            replace H := Option.bind_eq_some_iff.mp H
            obtain ⟨⟨t236, t239⟩, A650, H⟩ := H
            replace H : ((laws_eqArray.f kj24 t217 t220 t236 t239).bind fun t242 => (if t242 = true then ((laws_toArray.f kj24 l1_0 l1_1).bind fun bt243 => ((laws_eqArray.f kj24 t224 t227 bt243.1 bt243.2).bind fun t249 => (if t249 = true then ((laws_markArray.f kj24 t217 t220 1).bind fun bt250 => ((laws_markArray.f kj24 t224 t227 bt250.1).bind fun bt253 => (if bt253.1 < 0 then (laws_FnExactFit.j1 kj24 t213 t216 t231 true l0_0 l0_1 l1_0 l1_1) else ((laws_eqIntS.f kj24 t231 t213).bind fun t256 => (if t256 = true then (laws_FnExactFit.j1 kj24 t213 t216 t231 (t234 != t216) l0_0 l0_1 l1_0 l1_1) else (laws_FnExactFit.j1 kj24 t213 t216 t231 true l0_0 l0_1 l1_0 l1_1)))))) else (some false)))) else (some false))) = some r := H
            have A65 := Aside0.mk A650
            clear A650
            replace H := Option.bind_eq_some_iff.mp H
            obtain ⟨t242, A660, H⟩ := H
            replace H : (if t242 = true then ((laws_toArray.f kj24 l1_0 l1_1).bind fun bt243 => ((laws_eqArray.f kj24 t224 t227 bt243.1 bt243.2).bind fun t249 => (if t249 = true then ((laws_markArray.f kj24 t217 t220 1).bind fun bt250 => ((laws_markArray.f kj24 t224 t227 bt250.1).bind fun bt253 => (if bt253.1 < 0 then (laws_FnExactFit.j1 kj24 t213 t216 t231 true l0_0 l0_1 l1_0 l1_1) else ((laws_eqIntS.f kj24 t231 t213).bind fun t256 => (if t256 = true then (laws_FnExactFit.j1 kj24 t213 t216 t231 (t234 != t216) l0_0 l0_1 l1_0 l1_1) else (laws_FnExactFit.j1 kj24 t213 t216 t231 true l0_0 l0_1 l1_0 l1_1)))))) else (some false)))) else (some false)) = some r := H
            have A66 := Aside0.mk A660
            clear A660
            by_cases c67 : t242 = true
            · subst c67
              have H1 : ((laws_toArray.f kj24 l1_0 l1_1).bind fun bt243 => ((laws_eqArray.f kj24 t224 t227 bt243.1 bt243.2).bind fun t249 => (if t249 = true then ((laws_markArray.f kj24 t217 t220 1).bind fun bt250 => ((laws_markArray.f kj24 t224 t227 bt250.1).bind fun bt253 => (if bt253.1 < 0 then (laws_FnExactFit.j1 kj24 t213 t216 t231 true l0_0 l0_1 l1_0 l1_1) else ((laws_eqIntS.f kj24 t231 t213).bind fun t256 => (if t256 = true then (laws_FnExactFit.j1 kj24 t213 t216 t231 (t234 != t216) l0_0 l0_1 l1_0 l1_1) else (laws_FnExactFit.j1 kj24 t213 t216 t231 true l0_0 l0_1 l1_0 l1_1)))))) else (some false)))) = some r := by rw [if_pos rfl] at H; exact H
              clear H
              have H := H1
              clear H1
              replace H := Option.bind_eq_some_iff.mp H
              obtain ⟨⟨t243, t246⟩, A680, H⟩ := H
              replace H : ((laws_eqArray.f kj24 t224 t227 t243 t246).bind fun t249 => (if t249 = true then ((laws_markArray.f kj24 t217 t220 1).bind fun bt250 => ((laws_markArray.f kj24 t224 t227 bt250.1).bind fun bt253 => (if bt253.1 < 0 then (laws_FnExactFit.j1 kj24 t213 t216 t231 true l0_0 l0_1 l1_0 l1_1) else ((laws_eqIntS.f kj24 t231 t213).bind fun t256 => (if t256 = true then (laws_FnExactFit.j1 kj24 t213 t216 t231 (t234 != t216) l0_0 l0_1 l1_0 l1_1) else (laws_FnExactFit.j1 kj24 t213 t216 t231 true l0_0 l0_1 l1_0 l1_1)))))) else (some false))) = some r := H
              have A68 := Aside0.mk A680
              clear A680
              replace H := Option.bind_eq_some_iff.mp H
              obtain ⟨t249, A690, H⟩ := H
              replace H : (if t249 = true then ((laws_markArray.f kj24 t217 t220 1).bind fun bt250 => ((laws_markArray.f kj24 t224 t227 bt250.1).bind fun bt253 => (if bt253.1 < 0 then (laws_FnExactFit.j1 kj24 t213 t216 t231 true l0_0 l0_1 l1_0 l1_1) else ((laws_eqIntS.f kj24 t231 t213).bind fun t256 => (if t256 = true then (laws_FnExactFit.j1 kj24 t213 t216 t231 (t234 != t216) l0_0 l0_1 l1_0 l1_1) else (laws_FnExactFit.j1 kj24 t213 t216 t231 true l0_0 l0_1 l1_0 l1_1)))))) else (some false)) = some r := H
              have A69 := Aside0.mk A690
              clear A690
              by_cases c70 : t249 = true
              · subst c70
                have H1 : ((laws_markArray.f kj24 t217 t220 1).bind fun bt250 => ((laws_markArray.f kj24 t224 t227 bt250.1).bind fun bt253 => (if bt253.1 < 0 then (laws_FnExactFit.j1 kj24 t213 t216 t231 true l0_0 l0_1 l1_0 l1_1) else ((laws_eqIntS.f kj24 t231 t213).bind fun t256 => (if t256 = true then (laws_FnExactFit.j1 kj24 t213 t216 t231 (t234 != t216) l0_0 l0_1 l1_0 l1_1) else (laws_FnExactFit.j1 kj24 t213 t216 t231 true l0_0 l0_1 l1_0 l1_1)))))) = some r := by rw [if_pos rfl] at H; exact H
                clear H
                have H := H1
                clear H1
                replace H := Option.bind_eq_some_iff.mp H
                obtain ⟨⟨t250, t251, t252⟩, A710, H⟩ := H
                replace H : ((laws_markArray.f kj24 t224 t227 t250).bind fun bt253 => (if bt253.1 < 0 then (laws_FnExactFit.j1 kj24 t213 t216 t231 true l0_0 l0_1 l1_0 l1_1) else ((laws_eqIntS.f kj24 t231 t213).bind fun t256 => (if t256 = true then (laws_FnExactFit.j1 kj24 t213 t216 t231 (t234 != t216) l0_0 l0_1 l1_0 l1_1) else (laws_FnExactFit.j1 kj24 t213 t216 t231 true l0_0 l0_1 l1_0 l1_1))))) = some r := H
                have A71 := Aside0.mk A710
                clear A710
                replace H := Option.bind_eq_some_iff.mp H
                obtain ⟨⟨t253, t254, t255⟩, A720, H⟩ := H
                replace H : (if t253 < 0 then (laws_FnExactFit.j1 kj24 t213 t216 t231 true l0_0 l0_1 l1_0 l1_1) else ((laws_eqIntS.f kj24 t231 t213).bind fun t256 => (if t256 = true then (laws_FnExactFit.j1 kj24 t213 t216 t231 (t234 != t216) l0_0 l0_1 l1_0 l1_1) else (laws_FnExactFit.j1 kj24 t213 t216 t231 true l0_0 l0_1 l1_0 l1_1)))) = some r := H
                have A72 := Aside0.mk A720
                clear A720
                have HC73 := Aside0.mk H
                clear H
                try go_wp2
                have n0_ := Aside0.mk (Kd.R_drew HO_6.out)
                have n1_ := Aside0.mk (Kd.R_drew HO_10.out)
                have n2_ := Aside0.mk (Kd.R_drew HO_224000.out)
                have n3_ := Aside0.mk (Kd.R_drew HO_224001.out)
                have n4_ := Aside0.mk (Kd.R_drew HO_231000.out)
                have n5_ := Aside0.mk (Kd.R_drew HO_231001.out)
                have n6_ := Aside0.mk (blk_drew BK197.out)
                have n7_ := Aside0.mk (blk_drew BK198.out)
                have n8_ := Aside0.mk (blk_drew BK223.out)
                have n9_ := Aside0.mk (blk_drew BK230.out)
                have n10_ := Aside0.mk (below_drew1 HB.out)
                clear HO_6
                clear HO_10
                clear HO_224000
                clear HO_224001
                clear HO_231000
                clear HO_231001
                clear BK197
                clear BK198
                clear BK223
                clear BK230
                clear HB
                have HO_6 := n0_
                have HO_10 := n1_
                have HO_224000 := n2_
                have HO_224001 := n3_
                have HO_231000 := n4_
                have HO_231001 := n5_
                have BK197 := n6_
                have BK198 := n7_
                have BK223 := n8_
                have BK230 := n9_
                have HB := n10_
                clear n0_ n1_ n2_ n3_ n4_ n5_ n6_ n7_ n8_ n9_ n10_
                refine start_ (n := 5) (S := fun w' => w'.cell? ⟨gb223, 0, none⟩ = some (.slice Ao44 t217.length co44) ∧ w'.cell? ⟨gb223, 1, none⟩ = some (.slice Ao48 t220.length co48) ∧ w'.cell? ⟨gb197, 0, none⟩ = some (.slice A0_0 l0_0.length c0_0) ∧ w'.cell? ⟨gb197, 1, none⟩ = some (.slice A0_1 l0_1.length c0_1)) (ds := []) #[false, false, false, false, false] (by kernel_rfl) rfl rfl ⟨(blk_cell BK223.out 0).trans rfl, (blk_cell BK223.out 1).trans rfl, (blk_cell BK197.out 0).trans rfl, (blk_cell BK197.out 1).trans rfl⟩ (fun hHeld => ?_)
                generalize wc.drew = w74 at HO_6 HO_10 HO_224000 HO_224001 HO_231000 HO_231001 BK197 BK198 BK223 BK230 HB hHeld ⊢
                refine take_ (i := 0) (N := some 54) (v := ?_) (a' := ?_) #[true, false, false, false, false] rfl rfl (by kernel_rfl) (fun _ _ _ h => h) (Or.inl ⟨by rfl, ?_⟩) hHeld ?_ ?_
                rotate_left
                · rintro w' ⟨s0, s1, s2, s3⟩
                  go_simp
                  with_reducible rfl
                rotate_left
                · simp only [Act.put, List.setIfInBounds_toArray, List.set_cons_zero, List.set_cons_succ, i64_w, i32_w]
                  rfl
                refine take_ (i := 1) (N := some 55) (v := ?_) (a' := ?_) #[true, true, false, false, false] rfl rfl (by kernel_rfl) (fun _ _ _ h => h) (Or.inl ⟨by rfl, ?_⟩) hHeld ?_ ?_
                rotate_left
                · rintro w' ⟨s0, s1, s2, s3⟩
                  go_simp
                  with_reducible rfl
                rotate_left
                · simp only [Act.put, List.setIfInBounds_toArray, List.set_cons_zero, List.set_cons_succ, i64_w, i32_w]
                  rfl
                refine one_ (i := 2) (N := some 56) #[true, true, true, false, false] rfl rfl (by kernel_rfl) (by decide) (fun K hK => ?_)
                refine goes_ Try.func25 (by kernel_rfl) rfl #[.agg #[.slice A0_0 l0_0.length c0_0, .slice A0_1 l0_1.length c0_1]] (by rfl) rfl rfl (by (try simp only [List.map_toArray, List.map_cons, List.map_nil]); first | done | rfl | (simp only [List.length_drop, List.length_take]; rfl)) ?_
                with_reducible refine (laws_toArray.calls kj24 _ _ l0_0 _ _ l0_1 t236 t239 _ ?side1 ?side2 ?side3 ?side4 A65.out).mono ?_
                (case side1 => repeat (first | exact (Kd.C_below HR0_0.out HB.out) | (with_reducible refine Kd.C_alloc ?_ _) | (with_reducible refine Kd.C_drewN ?_ _) | (with_reducible refine Kd.C_drew ?_)))
                (case side2 => exact HC0_0.out)
                (case side3 => repeat (first | exact (Kd.C_below HR0_1.out HB.out) | (with_reducible refine Kd.C_alloc ?_ _) | (with_reducible refine Kd.C_drewN ?_ _) | (with_reducible refine Kd.C_drew ?_)))
                (case side4 => exact HC0_1.out)
                rintro e w75 ⟨v237, v240, rfl, ho0, ho1, hb⟩
                refine ⟨_, rfl, ?_⟩
                have n0_ := Aside0.mk (Kd.R_mono (Kd.R_told (Kd.R_told (Kd.R_old (by (with_reducible repeat (first | apply Kd.R_alloc | apply Kd.R_drewN | apply Kd.R_drew)); exact HO_6.out) hb) (Kd.R_base ho0)) (Kd.R_base ho1)) (fun _ h_ => h_.1))
                have n1_ := Aside0.mk (Kd.R_mono (Kd.R_told (Kd.R_told (Kd.R_old (by (with_reducible repeat (first | apply Kd.R_alloc | apply Kd.R_drewN | apply Kd.R_drew)); exact HO_10.out) hb) (Kd.R_base ho0)) (Kd.R_base ho1)) (fun _ h_ => h_.1))
                have n2_ := Aside0.mk (Kd.R_mono (Kd.R_told (Kd.R_told (Kd.R_old (by (with_reducible repeat (first | apply Kd.R_alloc | apply Kd.R_drewN | apply Kd.R_drew)); exact HO_224000.out) hb) (Kd.R_base ho0)) (Kd.R_base ho1)) (fun _ h_ => h_.1))
                have n3_ := Aside0.mk (Kd.R_mono (Kd.R_told (Kd.R_told (Kd.R_old (by (with_reducible repeat (first | apply Kd.R_alloc | apply Kd.R_drewN | apply Kd.R_drew)); exact HO_224001.out) hb) (Kd.R_base ho0)) (Kd.R_base ho1)) (fun _ h_ => h_.1))
                have n4_ := Aside0.mk (Kd.R_mono (Kd.R_told (Kd.R_told (Kd.R_old (by (with_reducible repeat (first | apply Kd.R_alloc | apply Kd.R_drewN | apply Kd.R_drew)); exact HO_231000.out) hb) (Kd.R_base ho0)) (Kd.R_base ho1)) (fun _ h_ => h_.1))
                have n5_ := Aside0.mk (Kd.R_mono (Kd.R_told (Kd.R_told (Kd.R_old (by (with_reducible repeat (first | apply Kd.R_alloc | apply Kd.R_drewN | apply Kd.R_drew)); exact HO_231001.out) hb) (Kd.R_base ho0)) (Kd.R_base ho1)) (fun _ h_ => h_.1))
                have n6_ := Aside0.mk (Kd.R_lower (Kd.R_new' (Kd.R_new' (Kd.R_new' (Kd.R_new' (Kd.R_new' (Kd.R_new' ho0 (Kd.R_lt (by (with_reducible repeat (first | apply Kd.R_alloc | apply Kd.R_drewN | apply Kd.R_drew)); exact HO_6.out))) (Kd.R_lt (by (with_reducible repeat (first | apply Kd.R_alloc | apply Kd.R_drewN | apply Kd.R_drew)); exact HO_10.out))) (Kd.R_lt (by (with_reducible repeat (first | apply Kd.R_alloc | apply Kd.R_drewN | apply Kd.R_drew)); exact HO_224000.out))) (Kd.R_lt (by (with_reducible repeat (first | apply Kd.R_alloc | apply Kd.R_drewN | apply Kd.R_drew)); exact HO_224001.out))) (Kd.R_lt (by (with_reducible repeat (first | apply Kd.R_alloc | apply Kd.R_drewN | apply Kd.R_drew)); exact HO_231000.out))) (Kd.R_lt (by (with_reducible repeat (first | apply Kd.R_alloc | apply Kd.R_drewN | apply Kd.R_drew)); exact HO_231001.out))) (below_size (by repeat (first | (with_reducible first | exact HB.out | apply below_alloc | apply pw_below_drewN | apply below_drew1 | refine below_set ?_ GE197.out | refine below_set ?_ GE198.out | refine below_set ?_ GE223.out | refine below_set ?_ GE230.out) | exact HB.out))))
                have n7_ := Aside0.mk (Kd.R_lower (Kd.R_new' (Kd.R_new' (Kd.R_new' (Kd.R_new' (Kd.R_new' (Kd.R_new' ho1 (Kd.R_lt (by (with_reducible repeat (first | apply Kd.R_alloc | apply Kd.R_drewN | apply Kd.R_drew)); exact HO_6.out))) (Kd.R_lt (by (with_reducible repeat (first | apply Kd.R_alloc | apply Kd.R_drewN | apply Kd.R_drew)); exact HO_10.out))) (Kd.R_lt (by (with_reducible repeat (first | apply Kd.R_alloc | apply Kd.R_drewN | apply Kd.R_drew)); exact HO_224000.out))) (Kd.R_lt (by (with_reducible repeat (first | apply Kd.R_alloc | apply Kd.R_drewN | apply Kd.R_drew)); exact HO_224001.out))) (Kd.R_lt (by (with_reducible repeat (first | apply Kd.R_alloc | apply Kd.R_drewN | apply Kd.R_drew)); exact HO_231000.out))) (Kd.R_lt (by (with_reducible repeat (first | apply Kd.R_alloc | apply Kd.R_drewN | apply Kd.R_drew)); exact HO_231001.out))) (below_size (by repeat (first | (with_reducible first | exact HB.out | apply below_alloc | apply pw_below_drewN | apply below_drew1 | refine below_set ?_ GE197.out | refine below_set ?_ GE198.out | refine below_set ?_ GE223.out | refine below_set ?_ GE230.out) | exact HB.out))))
                have n8_ := Aside0.mk (blk_below (g := gb197) (o := .cells #[.slice A0_0 l0_0.length c0_0, .slice A0_1 l0_1.length c0_1] 37 (0, 0)) (by (with_reducible repeat (first | refine blk_drewN ?_ _ | refine blk_drew ?_ | refine blk_alloc ?_ _)); exact BK197.out) hb)
                have n9_ := Aside0.mk (blk_below (g := gb198) (o := .cells #[.slice A1_0 l1_0.length c1_0, .slice A1_1 l1_1.length c1_1] 37 (0, 0)) (by (with_reducible repeat (first | refine blk_drewN ?_ _ | refine blk_drew ?_ | refine blk_alloc ?_ _)); exact BK198.out) hb)
                have n10_ := Aside0.mk (blk_below (g := gb223) (o := .cells #[.slice Ao44 t217.length co44, .slice Ao48 t220.length co48] 26 (0, 0)) (by (with_reducible repeat (first | refine blk_drewN ?_ _ | refine blk_drew ?_ | refine blk_alloc ?_ _)); exact BK223.out) hb)
                have n11_ := Aside0.mk (blk_below (g := gb230) (o := .cells #[.slice Ao52 t224.length co52, .slice Ao57 t227.length co57] 26 (0, 0)) (by (with_reducible repeat (first | refine blk_drewN ?_ _ | refine blk_drew ?_ | refine blk_alloc ?_ _)); exact BK230.out) hb)
                have n12_ := Aside0.mk (below_step (by repeat (first | (with_reducible first | exact HB.out | apply below_alloc | apply pw_below_drewN | apply below_drew1 | refine below_set ?_ GE197.out | refine below_set ?_ GE198.out | refine below_set ?_ GE223.out | refine below_set ?_ GE230.out) | exact HB.out)) hb)
                clear HO_6
                clear HO_10
                clear HO_224000
                clear HO_224001
                clear HO_231000
                clear HO_231001
                clear BK197
                clear BK198
                clear BK223
                clear BK230
                clear HB
                have HO_6 := n0_
                have HO_10 := n1_
                have HO_224000 := n2_
                have HO_224001 := n3_
                have HO_231000 := n4_
                have HO_231001 := n5_
                have HO238 := n6_
                have HO241 := n7_
                have BK197 := n8_
                have BK198 := n9_
                have BK223 := n10_
                have BK230 := n11_
                have HB := n12_
                clear n0_ n1_ n2_ n3_ n4_ n5_ n6_ n7_ n8_ n9_ n10_ n11_ n12_
                (try clear hb)
                (try clear hb2)
                (try clear hk)
                (try clear hi)
                (try clear ho0)
                (try clear ho1)
                obtain ⟨Ao76, co76, eo76⟩ := Kd.R_slice HO238.out
                (first | subst eo76 | (injection eo76 with f1_ f2_ f3_; have f4_ := f1_.symm; have f5_ := f3_.symm; clear f1_ f2_ f3_; subst f4_; subst f5_))
                obtain ⟨Ao77, co77, eo77⟩ := Kd.R_slice HO241.out
                (first | subst eo77 | (injection eo77 with f1_ f2_ f3_; have f4_ := f1_.symm; have f5_ := f3_.symm; clear f1_ f2_ f3_; subst f4_; subst f5_))
                refine hK.out _ _ ⟨(blk_cell BK223.out 0).trans rfl, (blk_cell BK223.out 1).trans rfl, (blk_cell BK197.out 0).trans rfl, (blk_cell BK197.out 1).trans rfl⟩ (fun hHeld => ?_)
                clear hK K
                refine norm_ (a' := ?_) ?_ ?_
                rotate_left
                · show Act.put _ (some 56) _ = _
                  simp only [Act.put, List.setIfInBounds_toArray, List.set_cons_zero, List.set_cons_succ, i64_w, i32_w]
                  rfl
                refine one_ (i := 3) (N := some 57) #[true, true, true, true, false] rfl rfl (by kernel_rfl) (by decide) (fun K hK => ?_)
                refine goes_ Try.func28 (by kernel_rfl) rfl #[.agg #[.slice Ao44 t217.length co44, .slice Ao48 t220.length co48], .agg #[.slice Ao76 t236.length co76, .slice Ao77 t239.length co77]] (by rfl) rfl rfl (by (try simp only [List.map_toArray, List.map_cons, List.map_nil]); first | done | rfl | (simp only [List.length_drop, List.length_take]; rfl)) ?_
                with_reducible refine (laws_eqArray.calls kj24 _ _ t217 _ _ t220 _ _ t236 _ _ t239 true _ ?side1 ?side2 ?side3 ?side4 ?side5 ?side6 ?side7 ?side8 A66.out).mono ?_
                (case side1 => repeat (first | exact (Kd.R_reads' HO_224000.out).2.2 | (with_reducible refine Kd.C_alloc ?_ _) | (with_reducible refine Kd.C_drewN ?_ _) | (with_reducible refine Kd.C_drew ?_)))
                (case side2 => exact (Kd.R_reads' HO_224000.out).2.1)
                (case side3 => repeat (first | exact (Kd.R_reads' HO_224001.out).2.2 | (with_reducible refine Kd.C_alloc ?_ _) | (with_reducible refine Kd.C_drewN ?_ _) | (with_reducible refine Kd.C_drew ?_)))
                (case side4 => exact (Kd.R_reads' HO_224001.out).2.1)
                (case side5 => repeat (first | exact (Kd.R_reads' HO238.out).2.2 | (with_reducible refine Kd.C_alloc ?_ _) | (with_reducible refine Kd.C_drewN ?_ _) | (with_reducible refine Kd.C_drew ?_)))
                (case side6 => exact (Kd.R_reads' HO238.out).2.1)
                (case side7 => repeat (first | exact (Kd.R_reads' HO241.out).2.2 | (with_reducible refine Kd.C_alloc ?_ _) | (with_reducible refine Kd.C_drewN ?_ _) | (with_reducible refine Kd.C_drew ?_)))
                (case side8 => exact (Kd.R_reads' HO241.out).2.1)
                rintro e w78 ⟨rfl, hb⟩
                refine ⟨_, rfl, ?_⟩
                have n0_ := Aside0.mk (Kd.R_below (by (with_reducible repeat (first | apply Kd.R_alloc | apply Kd.R_drewN | apply Kd.R_drew)); exact HO_6.out) hb)
                have n1_ := Aside0.mk (Kd.R_below (by (with_reducible repeat (first | apply Kd.R_alloc | apply Kd.R_drewN | apply Kd.R_drew)); exact HO_10.out) hb)
                have n2_ := Aside0.mk (Kd.R_below (by (with_reducible repeat (first | apply Kd.R_alloc | apply Kd.R_drewN | apply Kd.R_drew)); exact HO_224000.out) hb)
                have n3_ := Aside0.mk (Kd.R_below (by (with_reducible repeat (first | apply Kd.R_alloc | apply Kd.R_drewN | apply Kd.R_drew)); exact HO_224001.out) hb)
                have n4_ := Aside0.mk (Kd.R_below (by (with_reducible repeat (first | apply Kd.R_alloc | apply Kd.R_drewN | apply Kd.R_drew)); exact HO_231000.out) hb)
                have n5_ := Aside0.mk (Kd.R_below (by (with_reducible repeat (first | apply Kd.R_alloc | apply Kd.R_drewN | apply Kd.R_drew)); exact HO_231001.out) hb)
                have n6_ := Aside0.mk (Kd.R_below (by (with_reducible repeat (first | apply Kd.R_alloc | apply Kd.R_drewN | apply Kd.R_drew)); exact HO238.out) hb)
                have n7_ := Aside0.mk (Kd.R_below (by (with_reducible repeat (first | apply Kd.R_alloc | apply Kd.R_drewN | apply Kd.R_drew)); exact HO241.out) hb)
                have n8_ := Aside0.mk (blk_below (g := gb197) (o := .cells #[.slice A0_0 l0_0.length c0_0, .slice A0_1 l0_1.length c0_1] 37 (0, 0)) (by (with_reducible repeat (first | refine blk_drewN ?_ _ | refine blk_drew ?_ | refine blk_alloc ?_ _)); exact BK197.out) hb)
                have n9_ := Aside0.mk (blk_below (g := gb198) (o := .cells #[.slice A1_0 l1_0.length c1_0, .slice A1_1 l1_1.length c1_1] 37 (0, 0)) (by (with_reducible repeat (first | refine blk_drewN ?_ _ | refine blk_drew ?_ | refine blk_alloc ?_ _)); exact BK198.out) hb)
                have n10_ := Aside0.mk (blk_below (g := gb223) (o := .cells #[.slice Ao44 t217.length co44, .slice Ao48 t220.length co48] 26 (0, 0)) (by (with_reducible repeat (first | refine blk_drewN ?_ _ | refine blk_drew ?_ | refine blk_alloc ?_ _)); exact BK223.out) hb)
                have n11_ := Aside0.mk (blk_below (g := gb230) (o := .cells #[.slice Ao52 t224.length co52, .slice Ao57 t227.length co57] 26 (0, 0)) (by (with_reducible repeat (first | refine blk_drewN ?_ _ | refine blk_drew ?_ | refine blk_alloc ?_ _)); exact BK230.out) hb)
                have n12_ := Aside0.mk (below_step (by repeat (first | (with_reducible first | exact HB.out | apply below_alloc | apply pw_below_drewN | apply below_drew1 | refine below_set ?_ GE197.out | refine below_set ?_ GE198.out | refine below_set ?_ GE223.out | refine below_set ?_ GE230.out) | exact HB.out)) hb)
                clear HO_6
                clear HO_10
                clear HO_224000
                clear HO_224001
                clear HO_231000
                clear HO_231001
                clear HO238
                clear HO241
                clear BK197
                clear BK198
                clear BK223
                clear BK230
                clear HB
                have HO_6 := n0_
                have HO_10 := n1_
                have HO_224000 := n2_
                have HO_224001 := n3_
                have HO_231000 := n4_
                have HO_231001 := n5_
                have HO238 := n6_
                have HO241 := n7_
                have BK197 := n8_
                have BK198 := n9_
                have BK223 := n10_
                have BK230 := n11_
                have HB := n12_
                clear n0_ n1_ n2_ n3_ n4_ n5_ n6_ n7_ n8_ n9_ n10_ n11_ n12_
                (try clear hb)
                (try clear hb2)
                (try clear hk)
                (try clear hi)
                refine hK.out _ _ ⟨(blk_cell BK223.out 0).trans rfl, (blk_cell BK223.out 1).trans rfl, (blk_cell BK197.out 0).trans rfl, (blk_cell BK197.out 1).trans rfl⟩ (fun hHeld => ?_)
                clear hK K
                refine norm_ (a' := ?_) ?_ ?_
                rotate_left
                · show Act.put _ (some 57) _ = _
                  simp only [Act.put, List.setIfInBounds_toArray, List.set_cons_zero, List.set_cons_succ, i64_w, i32_w]
                  rfl
                refine pure_ (i := 4) (N := some 58) (v := ?_) (a' := ?_) #[true, true, true, true, true] rfl rfl (by kernel_rfl) (fun _ _ _ h => h) (Or.inl ⟨by rfl, ?_⟩) ?_ ?_
                rotate_left
                · intro w'
                  go_simp
                  with_reducible rfl
                rotate_left
                · simp only [Act.put, List.setIfInBounds_toArray, List.set_cons_zero, List.set_cons_succ, i64_w, i32_w]
                  rfl
                refine done_ (by kernel_rfl) ?_
                try go_wp2
                have n0_ := Aside0.mk (Kd.R_drew HO_6.out)
                have n1_ := Aside0.mk (Kd.R_drew HO_10.out)
                have n2_ := Aside0.mk (Kd.R_drew HO_224000.out)
                have n3_ := Aside0.mk (Kd.R_drew HO_224001.out)
                have n4_ := Aside0.mk (Kd.R_drew HO_231000.out)
                have n5_ := Aside0.mk (Kd.R_drew HO_231001.out)
                have n6_ := Aside0.mk (Kd.R_drew HO238.out)
                have n7_ := Aside0.mk (Kd.R_drew HO241.out)
                have n8_ := Aside0.mk (blk_drew BK197.out)
                have n9_ := Aside0.mk (blk_drew BK198.out)
                have n10_ := Aside0.mk (blk_drew BK223.out)
                have n11_ := Aside0.mk (blk_drew BK230.out)
                have n12_ := Aside0.mk (below_drew1 HB.out)
                clear HO_6
                clear HO_10
                clear HO_224000
                clear HO_224001
                clear HO_231000
                clear HO_231001
                clear HO238
                clear HO241
                clear BK197
                clear BK198
                clear BK223
                clear BK230
                clear HB
                have HO_6 := n0_
                have HO_10 := n1_
                have HO_224000 := n2_
                have HO_224001 := n3_
                have HO_231000 := n4_
                have HO_231001 := n5_
                have HO238 := n6_
                have HO241 := n7_
                have BK197 := n8_
                have BK198 := n9_
                have BK223 := n10_
                have BK230 := n11_
                have HB := n12_
                clear n0_ n1_ n2_ n3_ n4_ n5_ n6_ n7_ n8_ n9_ n10_ n11_ n12_
                refine start_ (n := 5) (S := fun w' => w'.cell? ⟨gb230, 0, none⟩ = some (.slice Ao52 t224.length co52) ∧ w'.cell? ⟨gb230, 1, none⟩ = some (.slice Ao57 t227.length co57) ∧ w'.cell? ⟨gb198, 0, none⟩ = some (.slice A1_0 l1_0.length c1_0) ∧ w'.cell? ⟨gb198, 1, none⟩ = some (.slice A1_1 l1_1.length c1_1)) (ds := []) #[false, false, false, false, false] (by kernel_rfl) rfl rfl ⟨(blk_cell BK230.out 0).trans rfl, (blk_cell BK230.out 1).trans rfl, (blk_cell BK198.out 0).trans rfl, (blk_cell BK198.out 1).trans rfl⟩ (fun hHeld => ?_)
                generalize w78.drew = w79 at HO_6 HO_10 HO_224000 HO_224001 HO_231000 HO_231001 HO238 HO241 BK197 BK198 BK223 BK230 HB hHeld ⊢
                refine take_ (i := 0) (N := some 59) (v := ?_) (a' := ?_) #[true, false, false, false, false] rfl rfl (by kernel_rfl) (fun _ _ _ h => h) (Or.inl ⟨by rfl, ?_⟩) hHeld ?_ ?_
                rotate_left
                · rintro w' ⟨s0, s1, s2, s3⟩
                  go_simp
                  with_reducible rfl
                rotate_left
                · simp only [Act.put, List.setIfInBounds_toArray, List.set_cons_zero, List.set_cons_succ, i64_w, i32_w]
                  rfl
                refine take_ (i := 1) (N := some 60) (v := ?_) (a' := ?_) #[true, true, false, false, false] rfl rfl (by kernel_rfl) (fun _ _ _ h => h) (Or.inl ⟨by rfl, ?_⟩) hHeld ?_ ?_
                rotate_left
                · rintro w' ⟨s0, s1, s2, s3⟩
                  go_simp
                  with_reducible rfl
                rotate_left
                · simp only [Act.put, List.setIfInBounds_toArray, List.set_cons_zero, List.set_cons_succ, i64_w, i32_w]
                  rfl
                refine one_ (i := 2) (N := some 61) #[true, true, true, false, false] rfl rfl (by kernel_rfl) (by decide) (fun K hK => ?_)
                refine goes_ Try.func25 (by kernel_rfl) rfl #[.agg #[.slice A1_0 l1_0.length c1_0, .slice A1_1 l1_1.length c1_1]] (by rfl) rfl rfl (by (try simp only [List.map_toArray, List.map_cons, List.map_nil]); first | done | rfl | (simp only [List.length_drop, List.length_take]; rfl)) ?_
                with_reducible refine (laws_toArray.calls kj24 _ _ l1_0 _ _ l1_1 t243 t246 _ ?side1 ?side2 ?side3 ?side4 A68.out).mono ?_
                (case side1 => repeat (first | exact (Kd.C_below HR1_0.out HB.out) | (with_reducible refine Kd.C_alloc ?_ _) | (with_reducible refine Kd.C_drewN ?_ _) | (with_reducible refine Kd.C_drew ?_)))
                (case side2 => exact HC1_0.out)
                (case side3 => repeat (first | exact (Kd.C_below HR1_1.out HB.out) | (with_reducible refine Kd.C_alloc ?_ _) | (with_reducible refine Kd.C_drewN ?_ _) | (with_reducible refine Kd.C_drew ?_)))
                (case side4 => exact HC1_1.out)
                rintro e w80 ⟨v244, v247, rfl, ho0, ho1, hb⟩
                refine ⟨_, rfl, ?_⟩
                have n0_ := Aside0.mk (Kd.R_mono (Kd.R_told (Kd.R_told (Kd.R_old (by (with_reducible repeat (first | apply Kd.R_alloc | apply Kd.R_drewN | apply Kd.R_drew)); exact HO_6.out) hb) (Kd.R_base ho0)) (Kd.R_base ho1)) (fun _ h_ => h_.1))
                have n1_ := Aside0.mk (Kd.R_mono (Kd.R_told (Kd.R_told (Kd.R_old (by (with_reducible repeat (first | apply Kd.R_alloc | apply Kd.R_drewN | apply Kd.R_drew)); exact HO_10.out) hb) (Kd.R_base ho0)) (Kd.R_base ho1)) (fun _ h_ => h_.1))
                have n2_ := Aside0.mk (Kd.R_mono (Kd.R_told (Kd.R_told (Kd.R_old (by (with_reducible repeat (first | apply Kd.R_alloc | apply Kd.R_drewN | apply Kd.R_drew)); exact HO_224000.out) hb) (Kd.R_base ho0)) (Kd.R_base ho1)) (fun _ h_ => h_.1))
                have n3_ := Aside0.mk (Kd.R_mono (Kd.R_told (Kd.R_told (Kd.R_old (by (with_reducible repeat (first | apply Kd.R_alloc | apply Kd.R_drewN | apply Kd.R_drew)); exact HO_224001.out) hb) (Kd.R_base ho0)) (Kd.R_base ho1)) (fun _ h_ => h_.1))
                have n4_ := Aside0.mk (Kd.R_mono (Kd.R_told (Kd.R_told (Kd.R_old (by (with_reducible repeat (first | apply Kd.R_alloc | apply Kd.R_drewN | apply Kd.R_drew)); exact HO_231000.out) hb) (Kd.R_base ho0)) (Kd.R_base ho1)) (fun _ h_ => h_.1))
                have n5_ := Aside0.mk (Kd.R_mono (Kd.R_told (Kd.R_told (Kd.R_old (by (with_reducible repeat (first | apply Kd.R_alloc | apply Kd.R_drewN | apply Kd.R_drew)); exact HO_231001.out) hb) (Kd.R_base ho0)) (Kd.R_base ho1)) (fun _ h_ => h_.1))
                have n6_ := Aside0.mk (Kd.R_mono (Kd.R_told (Kd.R_told (Kd.R_old (by (with_reducible repeat (first | apply Kd.R_alloc | apply Kd.R_drewN | apply Kd.R_drew)); exact HO238.out) hb) (Kd.R_base ho0)) (Kd.R_base ho1)) (fun _ h_ => h_.1))
                have n7_ := Aside0.mk (Kd.R_mono (Kd.R_told (Kd.R_told (Kd.R_old (by (with_reducible repeat (first | apply Kd.R_alloc | apply Kd.R_drewN | apply Kd.R_drew)); exact HO241.out) hb) (Kd.R_base ho0)) (Kd.R_base ho1)) (fun _ h_ => h_.1))
                have n8_ := Aside0.mk (Kd.R_lower (Kd.R_new' (Kd.R_new' (Kd.R_new' (Kd.R_new' (Kd.R_new' (Kd.R_new' (Kd.R_new' (Kd.R_new' ho0 (Kd.R_lt (by (with_reducible repeat (first | apply Kd.R_alloc | apply Kd.R_drewN | apply Kd.R_drew)); exact HO_6.out))) (Kd.R_lt (by (with_reducible repeat (first | apply Kd.R_alloc | apply Kd.R_drewN | apply Kd.R_drew)); exact HO_10.out))) (Kd.R_lt (by (with_reducible repeat (first | apply Kd.R_alloc | apply Kd.R_drewN | apply Kd.R_drew)); exact HO_224000.out))) (Kd.R_lt (by (with_reducible repeat (first | apply Kd.R_alloc | apply Kd.R_drewN | apply Kd.R_drew)); exact HO_224001.out))) (Kd.R_lt (by (with_reducible repeat (first | apply Kd.R_alloc | apply Kd.R_drewN | apply Kd.R_drew)); exact HO_231000.out))) (Kd.R_lt (by (with_reducible repeat (first | apply Kd.R_alloc | apply Kd.R_drewN | apply Kd.R_drew)); exact HO_231001.out))) (Kd.R_lt (by (with_reducible repeat (first | apply Kd.R_alloc | apply Kd.R_drewN | apply Kd.R_drew)); exact HO238.out))) (Kd.R_lt (by (with_reducible repeat (first | apply Kd.R_alloc | apply Kd.R_drewN | apply Kd.R_drew)); exact HO241.out))) (below_size (by repeat (first | (with_reducible first | exact HB.out | apply below_alloc | apply pw_below_drewN | apply below_drew1 | refine below_set ?_ GE197.out | refine below_set ?_ GE198.out | refine below_set ?_ GE223.out | refine below_set ?_ GE230.out) | exact HB.out))))
                have n9_ := Aside0.mk (Kd.R_lower (Kd.R_new' (Kd.R_new' (Kd.R_new' (Kd.R_new' (Kd.R_new' (Kd.R_new' (Kd.R_new' (Kd.R_new' ho1 (Kd.R_lt (by (with_reducible repeat (first | apply Kd.R_alloc | apply Kd.R_drewN | apply Kd.R_drew)); exact HO_6.out))) (Kd.R_lt (by (with_reducible repeat (first | apply Kd.R_alloc | apply Kd.R_drewN | apply Kd.R_drew)); exact HO_10.out))) (Kd.R_lt (by (with_reducible repeat (first | apply Kd.R_alloc | apply Kd.R_drewN | apply Kd.R_drew)); exact HO_224000.out))) (Kd.R_lt (by (with_reducible repeat (first | apply Kd.R_alloc | apply Kd.R_drewN | apply Kd.R_drew)); exact HO_224001.out))) (Kd.R_lt (by (with_reducible repeat (first | apply Kd.R_alloc | apply Kd.R_drewN | apply Kd.R_drew)); exact HO_231000.out))) (Kd.R_lt (by (with_reducible repeat (first | apply Kd.R_alloc | apply Kd.R_drewN | apply Kd.R_drew)); exact HO_231001.out))) (Kd.R_lt (by (with_reducible repeat (first | apply Kd.R_alloc | apply Kd.R_drewN | apply Kd.R_drew)); exact HO238.out))) (Kd.R_lt (by (with_reducible repeat (first | apply Kd.R_alloc | apply Kd.R_drewN | apply Kd.R_drew)); exact HO241.out))) (below_size (by repeat (first | (with_reducible first | exact HB.out | apply below_alloc | apply pw_below_drewN | apply below_drew1 | refine below_set ?_ GE197.out | refine below_set ?_ GE198.out | refine below_set ?_ GE223.out | refine below_set ?_ GE230.out) | exact HB.out))))
                have n10_ := Aside0.mk (blk_below (g := gb197) (o := .cells #[.slice A0_0 l0_0.length c0_0, .slice A0_1 l0_1.length c0_1] 37 (0, 0)) (by (with_reducible repeat (first | refine blk_drewN ?_ _ | refine blk_drew ?_ | refine blk_alloc ?_ _)); exact BK197.out) hb)
                have n11_ := Aside0.mk (blk_below (g := gb198) (o := .cells #[.slice A1_0 l1_0.length c1_0, .slice A1_1 l1_1.length c1_1] 37 (0, 0)) (by (with_reducible repeat (first | refine blk_drewN ?_ _ | refine blk_drew ?_ | refine blk_alloc ?_ _)); exact BK198.out) hb)
                have n12_ := Aside0.mk (blk_below (g := gb223) (o := .cells #[.slice Ao44 t217.length co44, .slice Ao48 t220.length co48] 26 (0, 0)) (by (with_reducible repeat (first | refine blk_drewN ?_ _ | refine blk_drew ?_ | refine blk_alloc ?_ _)); exact BK223.out) hb)
                have n13_ := Aside0.mk (blk_below (g := gb230) (o := .cells #[.slice Ao52 t224.length co52, .slice Ao57 t227.length co57] 26 (0, 0)) (by (with_reducible repeat (first | refine blk_drewN ?_ _ | refine blk_drew ?_ | refine blk_alloc ?_ _)); exact BK230.out) hb)
                have n14_ := Aside0.mk (below_step (by repeat (first | (with_reducible first | exact HB.out | apply below_alloc | apply pw_below_drewN | apply below_drew1 | refine below_set ?_ GE197.out | refine below_set ?_ GE198.out | refine below_set ?_ GE223.out | refine below_set ?_ GE230.out) | exact HB.out)) hb)
                clear HO_6
                clear HO_10
                clear HO_224000
                clear HO_224001
                clear HO_231000
                clear HO_231001
                clear HO238
                clear HO241
                clear BK197
                clear BK198
                clear BK223
                clear BK230
                clear HB
                have HO_6 := n0_
                have HO_10 := n1_
                have HO_224000 := n2_
                have HO_224001 := n3_
                have HO_231000 := n4_
                have HO_231001 := n5_
                have HO238 := n6_
                have HO241 := n7_
                have HO245 := n8_
                have HO248 := n9_
                have BK197 := n10_
                have BK198 := n11_
                have BK223 := n12_
                have BK230 := n13_
                have HB := n14_
                clear n0_ n1_ n2_ n3_ n4_ n5_ n6_ n7_ n8_ n9_ n10_ n11_ n12_ n13_ n14_
                (try clear hb)
                (try clear hb2)
                (try clear hk)
                (try clear hi)
                (try clear ho0)
                (try clear ho1)
                obtain ⟨Ao81, co81, eo81⟩ := Kd.R_slice HO245.out
                (first | subst eo81 | (injection eo81 with f1_ f2_ f3_; have f4_ := f1_.symm; have f5_ := f3_.symm; clear f1_ f2_ f3_; subst f4_; subst f5_))
                obtain ⟨Ao82, co82, eo82⟩ := Kd.R_slice HO248.out
                (first | subst eo82 | (injection eo82 with f1_ f2_ f3_; have f4_ := f1_.symm; have f5_ := f3_.symm; clear f1_ f2_ f3_; subst f4_; subst f5_))
                refine hK.out _ _ ⟨(blk_cell BK230.out 0).trans rfl, (blk_cell BK230.out 1).trans rfl, (blk_cell BK198.out 0).trans rfl, (blk_cell BK198.out 1).trans rfl⟩ (fun hHeld => ?_)
                clear hK K
                refine norm_ (a' := ?_) ?_ ?_
                rotate_left
                · show Act.put _ (some 61) _ = _
                  simp only [Act.put, List.setIfInBounds_toArray, List.set_cons_zero, List.set_cons_succ, i64_w, i32_w]
                  rfl
                refine one_ (i := 3) (N := some 62) #[true, true, true, true, false] rfl rfl (by kernel_rfl) (by decide) (fun K hK => ?_)
                refine goes_ Try.func28 (by kernel_rfl) rfl #[.agg #[.slice Ao52 t224.length co52, .slice Ao57 t227.length co57], .agg #[.slice Ao81 t243.length co81, .slice Ao82 t246.length co82]] (by rfl) rfl rfl (by (try simp only [List.map_toArray, List.map_cons, List.map_nil]); first | done | rfl | (simp only [List.length_drop, List.length_take]; rfl)) ?_
                with_reducible refine (laws_eqArray.calls kj24 _ _ t224 _ _ t227 _ _ t243 _ _ t246 true _ ?side1 ?side2 ?side3 ?side4 ?side5 ?side6 ?side7 ?side8 A69.out).mono ?_
                (case side1 => repeat (first | exact (Kd.R_reads' HO_231000.out).2.2 | (with_reducible refine Kd.C_alloc ?_ _) | (with_reducible refine Kd.C_drewN ?_ _) | (with_reducible refine Kd.C_drew ?_)))
                (case side2 => exact (Kd.R_reads' HO_231000.out).2.1)
                (case side3 => repeat (first | exact (Kd.R_reads' HO_231001.out).2.2 | (with_reducible refine Kd.C_alloc ?_ _) | (with_reducible refine Kd.C_drewN ?_ _) | (with_reducible refine Kd.C_drew ?_)))
                (case side4 => exact (Kd.R_reads' HO_231001.out).2.1)
                (case side5 => repeat (first | exact (Kd.R_reads' HO245.out).2.2 | (with_reducible refine Kd.C_alloc ?_ _) | (with_reducible refine Kd.C_drewN ?_ _) | (with_reducible refine Kd.C_drew ?_)))
                (case side6 => exact (Kd.R_reads' HO245.out).2.1)
                (case side7 => repeat (first | exact (Kd.R_reads' HO248.out).2.2 | (with_reducible refine Kd.C_alloc ?_ _) | (with_reducible refine Kd.C_drewN ?_ _) | (with_reducible refine Kd.C_drew ?_)))
                (case side8 => exact (Kd.R_reads' HO248.out).2.1)
                rintro e w83 ⟨rfl, hb⟩
                refine ⟨_, rfl, ?_⟩
                have n0_ := Aside0.mk (Kd.R_below (by (with_reducible repeat (first | apply Kd.R_alloc | apply Kd.R_drewN | apply Kd.R_drew)); exact HO_6.out) hb)
                have n1_ := Aside0.mk (Kd.R_below (by (with_reducible repeat (first | apply Kd.R_alloc | apply Kd.R_drewN | apply Kd.R_drew)); exact HO_10.out) hb)
                have n2_ := Aside0.mk (Kd.R_below (by (with_reducible repeat (first | apply Kd.R_alloc | apply Kd.R_drewN | apply Kd.R_drew)); exact HO_224000.out) hb)
                have n3_ := Aside0.mk (Kd.R_below (by (with_reducible repeat (first | apply Kd.R_alloc | apply Kd.R_drewN | apply Kd.R_drew)); exact HO_224001.out) hb)
                have n4_ := Aside0.mk (Kd.R_below (by (with_reducible repeat (first | apply Kd.R_alloc | apply Kd.R_drewN | apply Kd.R_drew)); exact HO_231000.out) hb)
                have n5_ := Aside0.mk (Kd.R_below (by (with_reducible repeat (first | apply Kd.R_alloc | apply Kd.R_drewN | apply Kd.R_drew)); exact HO_231001.out) hb)
                have n6_ := Aside0.mk (Kd.R_below (by (with_reducible repeat (first | apply Kd.R_alloc | apply Kd.R_drewN | apply Kd.R_drew)); exact HO238.out) hb)
                have n7_ := Aside0.mk (Kd.R_below (by (with_reducible repeat (first | apply Kd.R_alloc | apply Kd.R_drewN | apply Kd.R_drew)); exact HO241.out) hb)
                have n8_ := Aside0.mk (Kd.R_below (by (with_reducible repeat (first | apply Kd.R_alloc | apply Kd.R_drewN | apply Kd.R_drew)); exact HO245.out) hb)
                have n9_ := Aside0.mk (Kd.R_below (by (with_reducible repeat (first | apply Kd.R_alloc | apply Kd.R_drewN | apply Kd.R_drew)); exact HO248.out) hb)
                have n10_ := Aside0.mk (blk_below (g := gb197) (o := .cells #[.slice A0_0 l0_0.length c0_0, .slice A0_1 l0_1.length c0_1] 37 (0, 0)) (by (with_reducible repeat (first | refine blk_drewN ?_ _ | refine blk_drew ?_ | refine blk_alloc ?_ _)); exact BK197.out) hb)
                have n11_ := Aside0.mk (blk_below (g := gb198) (o := .cells #[.slice A1_0 l1_0.length c1_0, .slice A1_1 l1_1.length c1_1] 37 (0, 0)) (by (with_reducible repeat (first | refine blk_drewN ?_ _ | refine blk_drew ?_ | refine blk_alloc ?_ _)); exact BK198.out) hb)
                have n12_ := Aside0.mk (blk_below (g := gb223) (o := .cells #[.slice Ao44 t217.length co44, .slice Ao48 t220.length co48] 26 (0, 0)) (by (with_reducible repeat (first | refine blk_drewN ?_ _ | refine blk_drew ?_ | refine blk_alloc ?_ _)); exact BK223.out) hb)
                have n13_ := Aside0.mk (blk_below (g := gb230) (o := .cells #[.slice Ao52 t224.length co52, .slice Ao57 t227.length co57] 26 (0, 0)) (by (with_reducible repeat (first | refine blk_drewN ?_ _ | refine blk_drew ?_ | refine blk_alloc ?_ _)); exact BK230.out) hb)
                have n14_ := Aside0.mk (below_step (by repeat (first | (with_reducible first | exact HB.out | apply below_alloc | apply pw_below_drewN | apply below_drew1 | refine below_set ?_ GE197.out | refine below_set ?_ GE198.out | refine below_set ?_ GE223.out | refine below_set ?_ GE230.out) | exact HB.out)) hb)
                clear HO_6
                clear HO_10
                clear HO_224000
                clear HO_224001
                clear HO_231000
                clear HO_231001
                clear HO238
                clear HO241
                clear HO245
                clear HO248
                clear BK197
                clear BK198
                clear BK223
                clear BK230
                clear HB
                have HO_6 := n0_
                have HO_10 := n1_
                have HO_224000 := n2_
                have HO_224001 := n3_
                have HO_231000 := n4_
                have HO_231001 := n5_
                have HO238 := n6_
                have HO241 := n7_
                have HO245 := n8_
                have HO248 := n9_
                have BK197 := n10_
                have BK198 := n11_
                have BK223 := n12_
                have BK230 := n13_
                have HB := n14_
                clear n0_ n1_ n2_ n3_ n4_ n5_ n6_ n7_ n8_ n9_ n10_ n11_ n12_ n13_ n14_
                (try clear hb)
                (try clear hb2)
                (try clear hk)
                (try clear hi)
                refine hK.out _ _ ⟨(blk_cell BK230.out 0).trans rfl, (blk_cell BK230.out 1).trans rfl, (blk_cell BK198.out 0).trans rfl, (blk_cell BK198.out 1).trans rfl⟩ (fun hHeld => ?_)
                clear hK K
                refine norm_ (a' := ?_) ?_ ?_
                rotate_left
                · show Act.put _ (some 62) _ = _
                  simp only [Act.put, List.setIfInBounds_toArray, List.set_cons_zero, List.set_cons_succ, i64_w, i32_w]
                  rfl
                refine pure_ (i := 4) (N := some 63) (v := ?_) (a' := ?_) #[true, true, true, true, true] rfl rfl (by kernel_rfl) (fun _ _ _ h => h) (Or.inl ⟨by rfl, ?_⟩) ?_ ?_
                rotate_left
                · intro w'
                  go_simp
                  with_reducible rfl
                rotate_left
                · simp only [Act.put, List.setIfInBounds_toArray, List.set_cons_zero, List.set_cons_succ, i64_w, i32_w]
                  rfl
                refine done_ (by kernel_rfl) ?_
                have hnb84 := NB223_197.out
                have hnc84 := NB197_223.out
                have hnb85 := NB223_198.out
                have hnc85 := NB198_223.out
                have hnb86 := NB223_230.out
                have hnc86 := NB230_223.out
                have hcz87_0 : w83.cell? ⟨gb223, 0, none⟩ = some (.slice Ao44 t217.length co44) := (blk_cell BK223.out 0).trans rfl
                have hcz87_1 : w83.cell? ⟨gb223, 1, none⟩ = some (.slice Ao48 t220.length co48) := (blk_cell BK223.out 1).trans rfl
                have hfz87_0 := blk_frozen BK223.out 0
                have hfz87_1 := blk_frozen BK223.out 1
                go_upto_region 21 with (first | ((with_reducible refine gate_callee (f := 32) rfl ?_); refine goesL_ (some 66) rfl rfl Try.func32 (by kernel_rfl) rfl #[.agg #[.slice Ao44 t217.length co44, .slice Ao48 t220.length co48], .int .i64 1] rfl (by (try simp only [List.map_toArray, List.map_cons, List.map_nil]); first | done | rfl | (simp only [List.length_drop, List.length_take]; rfl)) ?_; (with_reducible refine (laws_markArray.calls kj24 (fun k_ => some k_ = (.slice Ao44 t217.length co44 : Value).ownBlock) (.slice Ao44 t217.length co44) t217 (fun k_ => some k_ = (.slice Ao48 t220.length co48 : Value).ownBlock) (.slice Ao48 t220.length co48) t220 1 t250 t251 t252 w _ ?side1 ?side2 ?side3 ?side4 ?side5 A71.out).mono ?_); (case side1 => repeat (first | (with_reducible first | exact HB.out | apply below_alloc | apply pw_below_drewN | apply below_drew1 | refine below_set ?_ GE197.out | refine below_set ?_ GE198.out | refine below_set ?_ GE223.out | refine below_set ?_ GE230.out) | exact HB.out)); (case side2 => exact Kd.R_tight rfl HO_224000.out); (case side3 => exact fun k_ e_ => (HO_224000.out.1 k_ e_.symm).1.1.1.1.2.2.1); (case side4 => exact Kd.R_tight rfl HO_224001.out); (case side5 => exact fun k_ e_ => (HO_224001.out.1 k_ e_.symm).1.1.1.1.2.2.1); rintro e w88 ⟨rfl, hy0, hy1, hb, hkp⟩; refine ⟨_, rfl, ?_⟩; have n0_ := Aside0.mk (Kd.R_mono (ok' := fun k_ => some k_ ≠ (v232 : Value).ownBlock ∧ some k_ ≠ (.slice Ao44 t217.length co44 : Value).ownBlock ∧ some k_ ≠ (.slice Ao48 t220.length co48 : Value).ownBlock ∧ some k_ ≠ (.slice Ao52 t224.length co52 : Value).ownBlock ∧ some k_ ≠ (.slice Ao57 t227.length co57 : Value).ownBlock ∧ some k_ ≠ (.slice Ao76 t236.length co76 : Value).ownBlock ∧ some k_ ≠ (.slice Ao77 t239.length co77 : Value).ownBlock ∧ some k_ ≠ (.slice Ao81 t243.length co81 : Value).ownBlock ∧ some k_ ≠ (.slice Ao82 t246.length co82 : Value).ownBlock) (Kd.R_keptB (HO_6.out) hkp (fun k_ hk_ hs_ => Or.elim hs_ (fun e_ => (hk_.1.1.1.1.2.1) e_) (fun e_ => (hk_.1.1.1.1.2.2.1) e_))) (fun k_ hk_ => ⟨hk_.1.1.1.1.1.1, hk_.1.1.1.1.1.2.1, hk_.1.1.1.1.1.2.2.1, hk_.1.1.1.1.1.2.2.2.1, hk_.1.1.1.1.1.2.2.2.2, hk_.1.1.1.1.2, hk_.1.1.1.2, hk_.1.1.2, hk_.1.2⟩)); have n1_ := Aside0.mk (Kd.R_mono (ok' := fun k_ => some k_ ≠ (v214 : Value).ownBlock ∧ some k_ ≠ (.slice Ao44 t217.length co44 : Value).ownBlock ∧ some k_ ≠ (.slice Ao48 t220.length co48 : Value).ownBlock ∧ some k_ ≠ (.slice Ao52 t224.length co52 : Value).ownBlock ∧ some k_ ≠ (.slice Ao57 t227.length co57 : Value).ownBlock ∧ some k_ ≠ (.slice Ao76 t236.length co76 : Value).ownBlock ∧ some k_ ≠ (.slice Ao77 t239.length co77 : Value).ownBlock ∧ some k_ ≠ (.slice Ao81 t243.length co81 : Value).ownBlock ∧ some k_ ≠ (.slice Ao82 t246.length co82 : Value).ownBlock) (Kd.R_keptB (HO_10.out) hkp (fun k_ hk_ hs_ => Or.elim hs_ (fun e_ => (hk_.1.1.1.1.2.1) e_) (fun e_ => (hk_.1.1.1.1.2.2.1) e_))) (fun k_ hk_ => ⟨hk_.1.1.1.1.1.1, hk_.1.1.1.1.1.2.1, hk_.1.1.1.1.1.2.2.1, hk_.1.1.1.1.1.2.2.2.1, hk_.1.1.1.1.1.2.2.2.2, hk_.1.1.1.1.2, hk_.1.1.1.2, hk_.1.1.2, hk_.1.2⟩)); have n2_ := Aside0.mk (Kd.R_reok rfl hy0 (fun k_ e_ => HO_224000.out.1 k_ e_)); have n3_ := Aside0.mk (Kd.R_reok rfl hy1 (fun k_ e_ => HO_224001.out.1 k_ e_)); have n4_ := Aside0.mk (Kd.R_mono (ok' := fun k_ => some k_ ≠ (v214 : Value).ownBlock ∧ some k_ ≠ (v232 : Value).ownBlock ∧ some k_ ≠ (.slice Ao44 t217.length co44 : Value).ownBlock ∧ some k_ ≠ (.slice Ao48 t220.length co48 : Value).ownBlock ∧ some k_ ≠ (.slice Ao57 t227.length co57 : Value).ownBlock ∧ some k_ ≠ (.slice Ao76 t236.length co76 : Value).ownBlock ∧ some k_ ≠ (.slice Ao77 t239.length co77 : Value).ownBlock ∧ some k_ ≠ (.slice Ao81 t243.length co81 : Value).ownBlock ∧ some k_ ≠ (.slice Ao82 t246.length co82 : Value).ownBlock) (Kd.R_keptB (HO_231000.out) hkp (fun k_ hk_ hs_ => Or.elim hs_ (fun e_ => (hk_.1.1.1.1.2.2.1) e_) (fun e_ => (hk_.1.1.1.1.2.2.2.1) e_))) (fun k_ hk_ => ⟨hk_.1.1.1.1.1.1, hk_.1.1.1.1.1.2.1, hk_.1.1.1.1.1.2.2.1, hk_.1.1.1.1.1.2.2.2.1, hk_.1.1.1.1.1.2.2.2.2, hk_.1.1.1.1.2, hk_.1.1.1.2, hk_.1.1.2, hk_.1.2⟩)); have n5_ := Aside0.mk (Kd.R_mono (ok' := fun k_ => some k_ ≠ (v214 : Value).ownBlock ∧ some k_ ≠ (v232 : Value).ownBlock ∧ some k_ ≠ (.slice Ao44 t217.length co44 : Value).ownBlock ∧ some k_ ≠ (.slice Ao48 t220.length co48 : Value).ownBlock ∧ some k_ ≠ (.slice Ao52 t224.length co52 : Value).ownBlock ∧ some k_ ≠ (.slice Ao76 t236.length co76 : Value).ownBlock ∧ some k_ ≠ (.slice Ao77 t239.length co77 : Value).ownBlock ∧ some k_ ≠ (.slice Ao81 t243.length co81 : Value).ownBlock ∧ some k_ ≠ (.slice Ao82 t246.length co82 : Value).ownBlock) (Kd.R_keptB (HO_231001.out) hkp (fun k_ hk_ hs_ => Or.elim hs_ (fun e_ => (hk_.1.1.1.1.2.2.1) e_) (fun e_ => (hk_.1.1.1.1.2.2.2.1) e_))) (fun k_ hk_ => ⟨hk_.1.1.1.1.1.1, hk_.1.1.1.1.1.2.1, hk_.1.1.1.1.1.2.2.1, hk_.1.1.1.1.1.2.2.2.1, hk_.1.1.1.1.1.2.2.2.2, hk_.1.1.1.1.2, hk_.1.1.1.2, hk_.1.1.2, hk_.1.2⟩)); have n6_ := Aside0.mk (blk_kept (by (with_reducible repeat (first | refine blk_drewN ?_ _ | refine blk_drew ?_ | refine blk_alloc ?_ _)); exact BK197.out) hkp (fun hs_ => Or.elim hs_ (fun e_ => (fun e_ => (Kd.R_ne HO_224000.out BK197.out (by decide)) e_) e_) (fun e_ => (fun e_ => (Kd.R_ne HO_224001.out BK197.out (by decide)) e_) e_))); have n7_ := Aside0.mk (blk_kept (by (with_reducible repeat (first | refine blk_drewN ?_ _ | refine blk_drew ?_ | refine blk_alloc ?_ _)); exact BK198.out) hkp (fun hs_ => Or.elim hs_ (fun e_ => (fun e_ => (Kd.R_ne HO_224000.out BK198.out (by decide)) e_) e_) (fun e_ => (fun e_ => (Kd.R_ne HO_224001.out BK198.out (by decide)) e_) e_))); have n8_ := Aside0.mk (blk_kept (by (with_reducible repeat (first | refine blk_drewN ?_ _ | refine blk_drew ?_ | refine blk_alloc ?_ _)); exact BK223.out) hkp (fun hs_ => Or.elim hs_ (fun e_ => (fun e_ => (Kd.R_ne HO_224000.out BK223.out (by decide)) e_) e_) (fun e_ => (fun e_ => (Kd.R_ne HO_224001.out BK223.out (by decide)) e_) e_))); have n9_ := Aside0.mk (blk_kept (by (with_reducible repeat (first | refine blk_drewN ?_ _ | refine blk_drew ?_ | refine blk_alloc ?_ _)); exact BK230.out) hkp (fun hs_ => Or.elim hs_ (fun e_ => (fun e_ => (Kd.R_ne HO_224000.out BK230.out (by decide)) e_) e_) (fun e_ => (fun e_ => (Kd.R_ne HO_224001.out BK230.out (by decide)) e_) e_))); have n10_ := Aside0.mk (Kd.R_mono (ok' := fun k_ => some k_ ≠ (v214 : Value).ownBlock ∧ some k_ ≠ (v232 : Value).ownBlock ∧ some k_ ≠ (.slice Ao44 t217.length co44 : Value).ownBlock ∧ some k_ ≠ (.slice Ao48 t220.length co48 : Value).ownBlock ∧ some k_ ≠ (.slice Ao52 t224.length co52 : Value).ownBlock ∧ some k_ ≠ (.slice Ao57 t227.length co57 : Value).ownBlock ∧ some k_ ≠ (.slice Ao77 t239.length co77 : Value).ownBlock ∧ some k_ ≠ (.slice Ao81 t243.length co81 : Value).ownBlock ∧ some k_ ≠ (.slice Ao82 t246.length co82 : Value).ownBlock) (Kd.R_keptB (HO238.out) hkp (fun k_ hk_ hs_ => Or.elim hs_ (fun e_ => (hk_.1.1.1.1.1.2) e_) (fun e_ => (hk_.1.1.1.1.2) e_))) (fun k_ hk_ => ⟨hk_.1.1.1.1.1.1.1.1.2, hk_.1.1.1.1.1.1.1.2, hk_.1.1.1.1.1.1.2, hk_.1.1.1.1.1.2, hk_.1.1.1.1.2, hk_.1.1.1.2, hk_.1.1.1.1.1.1.1.1.1, hk_.1.1.2, hk_.1.2⟩)); have n11_ := Aside0.mk (Kd.R_mono (ok' := fun k_ => some k_ ≠ (v214 : Value).ownBlock ∧ some k_ ≠ (v232 : Value).ownBlock ∧ some k_ ≠ (.slice Ao44 t217.length co44 : Value).ownBlock ∧ some k_ ≠ (.slice Ao48 t220.length co48 : Value).ownBlock ∧ some k_ ≠ (.slice Ao52 t224.length co52 : Value).ownBlock ∧ some k_ ≠ (.slice Ao57 t227.length co57 : Value).ownBlock ∧ some k_ ≠ (.slice Ao76 t236.length co76 : Value).ownBlock ∧ some k_ ≠ (.slice Ao81 t243.length co81 : Value).ownBlock ∧ some k_ ≠ (.slice Ao82 t246.length co82 : Value).ownBlock) (Kd.R_keptB (HO241.out) hkp (fun k_ hk_ hs_ => Or.elim hs_ (fun e_ => (hk_.1.1.1.1.1.2) e_) (fun e_ => (hk_.1.1.1.1.2) e_))) (fun k_ hk_ => ⟨hk_.1.1.1.1.1.1.1.1.2, hk_.1.1.1.1.1.1.1.2, hk_.1.1.1.1.1.1.2, hk_.1.1.1.1.1.2, hk_.1.1.1.1.2, hk_.1.1.1.2, hk_.1.1.1.1.1.1.1.1.1, hk_.1.1.2, hk_.1.2⟩)); have n12_ := Aside0.mk (Kd.R_mono (ok' := fun k_ => some k_ ≠ (v214 : Value).ownBlock ∧ some k_ ≠ (v232 : Value).ownBlock ∧ some k_ ≠ (.slice Ao44 t217.length co44 : Value).ownBlock ∧ some k_ ≠ (.slice Ao48 t220.length co48 : Value).ownBlock ∧ some k_ ≠ (.slice Ao52 t224.length co52 : Value).ownBlock ∧ some k_ ≠ (.slice Ao57 t227.length co57 : Value).ownBlock ∧ some k_ ≠ (.slice Ao76 t236.length co76 : Value).ownBlock ∧ some k_ ≠ (.slice Ao77 t239.length co77 : Value).ownBlock ∧ some k_ ≠ (.slice Ao82 t246.length co82 : Value).ownBlock) (Kd.R_keptB (HO245.out) hkp (fun k_ hk_ hs_ => Or.elim hs_ (fun e_ => (hk_.1.1.1.1.1.2) e_) (fun e_ => (hk_.1.1.1.1.2) e_))) (fun k_ hk_ => ⟨hk_.1.1.1.1.1.1.1.1.2, hk_.1.1.1.1.1.1.1.2, hk_.1.1.1.1.1.1.2, hk_.1.1.1.1.1.2, hk_.1.1.1.1.2, hk_.1.1.1.2, hk_.1.1.2, hk_.1.2, hk_.1.1.1.1.1.1.1.1.1⟩)); have n13_ := Aside0.mk (Kd.R_mono (ok' := fun k_ => some k_ ≠ (v214 : Value).ownBlock ∧ some k_ ≠ (v232 : Value).ownBlock ∧ some k_ ≠ (.slice Ao44 t217.length co44 : Value).ownBlock ∧ some k_ ≠ (.slice Ao48 t220.length co48 : Value).ownBlock ∧ some k_ ≠ (.slice Ao52 t224.length co52 : Value).ownBlock ∧ some k_ ≠ (.slice Ao57 t227.length co57 : Value).ownBlock ∧ some k_ ≠ (.slice Ao76 t236.length co76 : Value).ownBlock ∧ some k_ ≠ (.slice Ao77 t239.length co77 : Value).ownBlock ∧ some k_ ≠ (.slice Ao81 t243.length co81 : Value).ownBlock) (Kd.R_keptB (HO248.out) hkp (fun k_ hk_ hs_ => Or.elim hs_ (fun e_ => (hk_.1.1.1.1.1.2) e_) (fun e_ => (hk_.1.1.1.1.2) e_))) (fun k_ hk_ => ⟨hk_.1.1.1.1.1.1.1.1.2, hk_.1.1.1.1.1.1.1.2, hk_.1.1.1.1.1.1.2, hk_.1.1.1.1.1.2, hk_.1.1.1.1.2, hk_.1.1.1.2, hk_.1.1.2, hk_.1.2, hk_.1.1.1.1.1.1.1.1.1⟩)); have n14_ := Aside0.mk (hb); clear HO_6; clear HO_10; clear HO_224000; clear HO_224001; clear HO_231000; clear HO_231001; clear BK197; clear BK198; clear BK223; clear BK230; clear HO238; clear HO241; clear HO245; clear HO248; clear HB; have HO_6 := n0_; have HO_10 := n1_; have HO_224000 := n2_; have HO_224001 := n3_; have HO_231000 := n4_; have HO_231001 := n5_; have BK197 := n6_; have BK198 := n7_; have BK223 := n8_; have BK230 := n9_; have HO238 := n10_; have HO241 := n11_; have HO245 := n12_; have HO248 := n13_; have HB := n14_; clear n0_ n1_ n2_ n3_ n4_ n5_ n6_ n7_ n8_ n9_ n10_ n11_ n12_ n13_ n14_; (try clear hb); (try clear hkp); (try clear hy0); (try clear hy1); have hnb89 := NB230_197.out; have hnc89 := NB197_230.out; have hnb90 := NB230_198.out; have hnc90 := NB198_230.out; have hcz91_0 : w88.cell? ⟨gb230, 0, none⟩ = some (.slice Ao52 t224.length co52) := (blk_cell BK230.out 0).trans rfl; have hcz91_1 : w88.cell? ⟨gb230, 1, none⟩ = some (.slice Ao57 t227.length co57) := (blk_cell BK230.out 1).trans rfl; have hfz91_0 := blk_frozen BK230.out 0; have hfz91_1 := blk_frozen BK230.out 1) | ((with_reducible refine gate_callee (f := 32) rfl ?_); refine goesL_ (some 69) rfl rfl Try.func32 (by kernel_rfl) rfl #[.agg #[.slice Ao52 t224.length co52, .slice Ao57 t227.length co57], .int .i64 t250] rfl (by (try simp only [List.map_toArray, List.map_cons, List.map_nil]); first | done | rfl | (simp only [List.length_drop, List.length_take]; rfl)) ?_; (with_reducible refine (laws_markArray.calls kj24 (fun k_ => some k_ = (.slice Ao52 t224.length co52 : Value).ownBlock) (.slice Ao52 t224.length co52) t224 (fun k_ => some k_ = (.slice Ao57 t227.length co57 : Value).ownBlock) (.slice Ao57 t227.length co57) t227 t250 t253 t254 t255 w _ ?side1 ?side2 ?side3 ?side4 ?side5 A72.out).mono ?_); (case side1 => repeat (first | (with_reducible first | exact HB.out | apply below_alloc | apply pw_below_drewN | apply below_drew1 | refine below_set ?_ GE197.out | refine below_set ?_ GE198.out | refine below_set ?_ GE223.out | refine below_set ?_ GE230.out) | exact HB.out)); (case side2 => exact Kd.R_tight rfl HO_231000.out); (case side3 => exact fun k_ e_ => (HO_231000.out.1 k_ e_.symm).2.2.2.2.1); (case side4 => exact Kd.R_tight rfl HO_231001.out); (case side5 => exact fun k_ e_ => (HO_231001.out.1 k_ e_.symm).2.2.2.2.1); rintro e w92 ⟨rfl, hy0, hy1, hb, hkp⟩; refine ⟨_, rfl, ?_⟩; have n0_ := Aside0.mk (Kd.R_mono (ok' := fun k_ => some k_ ≠ (v232 : Value).ownBlock ∧ some k_ ≠ (.slice Ao44 t217.length co44 : Value).ownBlock ∧ some k_ ≠ (.slice Ao48 t220.length co48 : Value).ownBlock ∧ some k_ ≠ (.slice Ao52 t224.length co52 : Value).ownBlock ∧ some k_ ≠ (.slice Ao57 t227.length co57 : Value).ownBlock ∧ some k_ ≠ (.slice Ao76 t236.length co76 : Value).ownBlock ∧ some k_ ≠ (.slice Ao77 t239.length co77 : Value).ownBlock ∧ some k_ ≠ (.slice Ao81 t243.length co81 : Value).ownBlock ∧ some k_ ≠ (.slice Ao82 t246.length co82 : Value).ownBlock) (Kd.R_keptB (HO_6.out) hkp (fun k_ hk_ hs_ => Or.elim hs_ (fun e_ => (hk_.2.2.2.1) e_) (fun e_ => (hk_.2.2.2.2.1) e_))) (fun k_ hk_ => ⟨hk_.1.1, hk_.1.2.1, hk_.1.2.2.1, hk_.1.2.2.2.1, hk_.1.2.2.2.2.1, hk_.1.2.2.2.2.2.1, hk_.1.2.2.2.2.2.2.1, hk_.1.2.2.2.2.2.2.2.1, hk_.1.2.2.2.2.2.2.2.2⟩)); have n1_ := Aside0.mk (Kd.R_mono (ok' := fun k_ => some k_ ≠ (v214 : Value).ownBlock ∧ some k_ ≠ (.slice Ao44 t217.length co44 : Value).ownBlock ∧ some k_ ≠ (.slice Ao48 t220.length co48 : Value).ownBlock ∧ some k_ ≠ (.slice Ao52 t224.length co52 : Value).ownBlock ∧ some k_ ≠ (.slice Ao57 t227.length co57 : Value).ownBlock ∧ some k_ ≠ (.slice Ao76 t236.length co76 : Value).ownBlock ∧ some k_ ≠ (.slice Ao77 t239.length co77 : Value).ownBlock ∧ some k_ ≠ (.slice Ao81 t243.length co81 : Value).ownBlock ∧ some k_ ≠ (.slice Ao82 t246.length co82 : Value).ownBlock) (Kd.R_keptB (HO_10.out) hkp (fun k_ hk_ hs_ => Or.elim hs_ (fun e_ => (hk_.2.2.2.1) e_) (fun e_ => (hk_.2.2.2.2.1) e_))) (fun k_ hk_ => ⟨hk_.1.1, hk_.1.2.1, hk_.1.2.2.1, hk_.1.2.2.2.1, hk_.1.2.2.2.2.1, hk_.1.2.2.2.2.2.1, hk_.1.2.2.2.2.2.2.1, hk_.1.2.2.2.2.2.2.2.1, hk_.1.2.2.2.2.2.2.2.2⟩)); have n2_ := Aside0.mk (Kd.R_mono (ok' := fun k_ => some k_ ≠ (v214 : Value).ownBlock ∧ some k_ ≠ (v232 : Value).ownBlock ∧ some k_ ≠ (.slice Ao48 t220.length co48 : Value).ownBlock ∧ some k_ ≠ (.slice Ao52 t224.length co52 : Value).ownBlock ∧ some k_ ≠ (.slice Ao57 t227.length co57 : Value).ownBlock ∧ some k_ ≠ (.slice Ao76 t236.length co76 : Value).ownBlock ∧ some k_ ≠ (.slice Ao77 t239.length co77 : Value).ownBlock ∧ some k_ ≠ (.slice Ao81 t243.length co81 : Value).ownBlock ∧ some k_ ≠ (.slice Ao82 t246.length co82 : Value).ownBlock) (Kd.R_keptB (HO_224000.out) hkp (fun k_ hk_ hs_ => Or.elim hs_ (fun e_ => (hk_.1.1.1.1.2.2.2.1) e_) (fun e_ => (hk_.1.1.1.1.2.2.2.2) e_))) (fun k_ hk_ => ⟨hk_.1.1.1.1.1.1, hk_.1.1.1.1.1.2.1, hk_.1.1.1.1.1.2.2.1, hk_.1.1.1.1.1.2.2.2.1, hk_.1.1.1.1.1.2.2.2.2, hk_.1.1.1.1.2, hk_.1.1.1.2, hk_.1.1.2, hk_.1.2⟩)); have n3_ := Aside0.mk (Kd.R_mono (ok' := fun k_ => some k_ ≠ (v214 : Value).ownBlock ∧ some k_ ≠ (v232 : Value).ownBlock ∧ some k_ ≠ (.slice Ao44 t217.length co44 : Value).ownBlock ∧ some k_ ≠ (.slice Ao52 t224.length co52 : Value).ownBlock ∧ some k_ ≠ (.slice Ao57 t227.length co57 : Value).ownBlock ∧ some k_ ≠ (.slice Ao76 t236.length co76 : Value).ownBlock ∧ some k_ ≠ (.slice Ao77 t239.length co77 : Value).ownBlock ∧ some k_ ≠ (.slice Ao81 t243.length co81 : Value).ownBlock ∧ some k_ ≠ (.slice Ao82 t246.length co82 : Value).ownBlock) (Kd.R_keptB (HO_224001.out) hkp (fun k_ hk_ hs_ => Or.elim hs_ (fun e_ => (hk_.1.1.1.1.2.2.2.1) e_) (fun e_ => (hk_.1.1.1.1.2.2.2.2) e_))) (fun k_ hk_ => ⟨hk_.1.1.1.1.1.1, hk_.1.1.1.1.1.2.1, hk_.1.1.1.1.1.2.2.1, hk_.1.1.1.1.1.2.2.2.1, hk_.1.1.1.1.1.2.2.2.2, hk_.1.1.1.1.2, hk_.1.1.1.2, hk_.1.1.2, hk_.1.2⟩)); have n4_ := Aside0.mk (Kd.R_reok rfl hy0 (fun k_ e_ => HO_231000.out.1 k_ e_)); have n5_ := Aside0.mk (Kd.R_reok rfl hy1 (fun k_ e_ => HO_231001.out.1 k_ e_)); have n6_ := Aside0.mk (blk_kept (by (with_reducible repeat (first | refine blk_drewN ?_ _ | refine blk_drew ?_ | refine blk_alloc ?_ _)); exact BK197.out) hkp (fun hs_ => Or.elim hs_ (fun e_ => (fun e_ => (Kd.R_ne HO_231000.out BK197.out (by decide)) e_) e_) (fun e_ => (fun e_ => (Kd.R_ne HO_231001.out BK197.out (by decide)) e_) e_))); have n7_ := Aside0.mk (blk_kept (by (with_reducible repeat (first | refine blk_drewN ?_ _ | refine blk_drew ?_ | refine blk_alloc ?_ _)); exact BK198.out) hkp (fun hs_ => Or.elim hs_ (fun e_ => (fun e_ => (Kd.R_ne HO_231000.out BK198.out (by decide)) e_) e_) (fun e_ => (fun e_ => (Kd.R_ne HO_231001.out BK198.out (by decide)) e_) e_))); have n8_ := Aside0.mk (blk_kept (by (with_reducible repeat (first | refine blk_drewN ?_ _ | refine blk_drew ?_ | refine blk_alloc ?_ _)); exact BK223.out) hkp (fun hs_ => Or.elim hs_ (fun e_ => (fun e_ => (Kd.R_ne HO_231000.out BK223.out (by decide)) e_) e_) (fun e_ => (fun e_ => (Kd.R_ne HO_231001.out BK223.out (by decide)) e_) e_))); have n9_ := Aside0.mk (blk_kept (by (with_reducible repeat (first | refine blk_drewN ?_ _ | refine blk_drew ?_ | refine blk_alloc ?_ _)); exact BK230.out) hkp (fun hs_ => Or.elim hs_ (fun e_ => (fun e_ => (Kd.R_ne HO_231000.out BK230.out (by decide)) e_) e_) (fun e_ => (fun e_ => (Kd.R_ne HO_231001.out BK230.out (by decide)) e_) e_))); have n10_ := Aside0.mk (Kd.R_mono (ok' := fun k_ => some k_ ≠ (v214 : Value).ownBlock ∧ some k_ ≠ (v232 : Value).ownBlock ∧ some k_ ≠ (.slice Ao44 t217.length co44 : Value).ownBlock ∧ some k_ ≠ (.slice Ao48 t220.length co48 : Value).ownBlock ∧ some k_ ≠ (.slice Ao52 t224.length co52 : Value).ownBlock ∧ some k_ ≠ (.slice Ao57 t227.length co57 : Value).ownBlock ∧ some k_ ≠ (.slice Ao77 t239.length co77 : Value).ownBlock ∧ some k_ ≠ (.slice Ao81 t243.length co81 : Value).ownBlock ∧ some k_ ≠ (.slice Ao82 t246.length co82 : Value).ownBlock) (Kd.R_keptB (HO238.out) hkp (fun k_ hk_ hs_ => Or.elim hs_ (fun e_ => (hk_.2.2.2.2.1) e_) (fun e_ => (hk_.2.2.2.2.2.1) e_))) (fun k_ hk_ => ⟨hk_.1.1, hk_.1.2.1, hk_.1.2.2.1, hk_.1.2.2.2.1, hk_.1.2.2.2.2.1, hk_.1.2.2.2.2.2.1, hk_.1.2.2.2.2.2.2.1, hk_.1.2.2.2.2.2.2.2.1, hk_.1.2.2.2.2.2.2.2.2⟩)); have n11_ := Aside0.mk (Kd.R_mono (ok' := fun k_ => some k_ ≠ (v214 : Value).ownBlock ∧ some k_ ≠ (v232 : Value).ownBlock ∧ some k_ ≠ (.slice Ao44 t217.length co44 : Value).ownBlock ∧ some k_ ≠ (.slice Ao48 t220.length co48 : Value).ownBlock ∧ some k_ ≠ (.slice Ao52 t224.length co52 : Value).ownBlock ∧ some k_ ≠ (.slice Ao57 t227.length co57 : Value).ownBlock ∧ some k_ ≠ (.slice Ao76 t236.length co76 : Value).ownBlock ∧ some k_ ≠ (.slice Ao81 t243.length co81 : Value).ownBlock ∧ some k_ ≠ (.slice Ao82 t246.length co82 : Value).ownBlock) (Kd.R_keptB (HO241.out) hkp (fun k_ hk_ hs_ => Or.elim hs_ (fun e_ => (hk_.2.2.2.2.1) e_) (fun e_ => (hk_.2.2.2.2.2.1) e_))) (fun k_ hk_ => ⟨hk_.1.1, hk_.1.2.1, hk_.1.2.2.1, hk_.1.2.2.2.1, hk_.1.2.2.2.2.1, hk_.1.2.2.2.2.2.1, hk_.1.2.2.2.2.2.2.1, hk_.1.2.2.2.2.2.2.2.1, hk_.1.2.2.2.2.2.2.2.2⟩)); have n12_ := Aside0.mk (Kd.R_mono (ok' := fun k_ => some k_ ≠ (v214 : Value).ownBlock ∧ some k_ ≠ (v232 : Value).ownBlock ∧ some k_ ≠ (.slice Ao44 t217.length co44 : Value).ownBlock ∧ some k_ ≠ (.slice Ao48 t220.length co48 : Value).ownBlock ∧ some k_ ≠ (.slice Ao52 t224.length co52 : Value).ownBlock ∧ some k_ ≠ (.slice Ao57 t227.length co57 : Value).ownBlock ∧ some k_ ≠ (.slice Ao76 t236.length co76 : Value).ownBlock ∧ some k_ ≠ (.slice Ao77 t239.length co77 : Value).ownBlock ∧ some k_ ≠ (.slice Ao82 t246.length co82 : Value).ownBlock) (Kd.R_keptB (HO245.out) hkp (fun k_ hk_ hs_ => Or.elim hs_ (fun e_ => (hk_.2.2.2.2.1) e_) (fun e_ => (hk_.2.2.2.2.2.1) e_))) (fun k_ hk_ => ⟨hk_.1.1, hk_.1.2.1, hk_.1.2.2.1, hk_.1.2.2.2.1, hk_.1.2.2.2.2.1, hk_.1.2.2.2.2.2.1, hk_.1.2.2.2.2.2.2.1, hk_.1.2.2.2.2.2.2.2.1, hk_.1.2.2.2.2.2.2.2.2⟩)); have n13_ := Aside0.mk (Kd.R_mono (ok' := fun k_ => some k_ ≠ (v214 : Value).ownBlock ∧ some k_ ≠ (v232 : Value).ownBlock ∧ some k_ ≠ (.slice Ao44 t217.length co44 : Value).ownBlock ∧ some k_ ≠ (.slice Ao48 t220.length co48 : Value).ownBlock ∧ some k_ ≠ (.slice Ao52 t224.length co52 : Value).ownBlock ∧ some k_ ≠ (.slice Ao57 t227.length co57 : Value).ownBlock ∧ some k_ ≠ (.slice Ao76 t236.length co76 : Value).ownBlock ∧ some k_ ≠ (.slice Ao77 t239.length co77 : Value).ownBlock ∧ some k_ ≠ (.slice Ao81 t243.length co81 : Value).ownBlock) (Kd.R_keptB (HO248.out) hkp (fun k_ hk_ hs_ => Or.elim hs_ (fun e_ => (hk_.2.2.2.2.1) e_) (fun e_ => (hk_.2.2.2.2.2.1) e_))) (fun k_ hk_ => ⟨hk_.1.1, hk_.1.2.1, hk_.1.2.2.1, hk_.1.2.2.2.1, hk_.1.2.2.2.2.1, hk_.1.2.2.2.2.2.1, hk_.1.2.2.2.2.2.2.1, hk_.1.2.2.2.2.2.2.2.1, hk_.1.2.2.2.2.2.2.2.2⟩)); have n14_ := Aside0.mk (hb); clear HO_6; clear HO_10; clear HO_224000; clear HO_224001; clear HO_231000; clear HO_231001; clear BK197; clear BK198; clear BK223; clear BK230; clear HO238; clear HO241; clear HO245; clear HO248; clear HB; have HO_6 := n0_; have HO_10 := n1_; have HO_224000 := n2_; have HO_224001 := n3_; have HO_231000 := n4_; have HO_231001 := n5_; have BK197 := n6_; have BK198 := n7_; have BK223 := n8_; have BK230 := n9_; have HO238 := n10_; have HO241 := n11_; have HO245 := n12_; have HO248 := n13_; have HB := n14_; clear n0_ n1_ n2_ n3_ n4_ n5_ n6_ n7_ n8_ n9_ n10_ n11_ n12_ n13_ n14_; (try clear hb); (try clear hkp); (try clear hy0); (try clear hy1)))
                (try simp only [Act.put, List.setIfInBounds_toArray, List.set_cons_zero, List.set_cons_succ])
                go_cut [82] (fun v82 wc => ∃ (kq : Nat) (x82_72 : Bool), v82 = .bool x82_72 ∧ Aside0 (laws_FnExactFit.j1 kq t213 t216 t231 x82_72 l0_0 l0_1 l1_0 l1_1 = some r) ∧ Aside0 (kq ≤ kj24) ∧ Aside0 (Kd.R (Kd.int .i64) 3 wc w.heap.size (fun k_ => some k_ ≠ (v232 : Value).ownBlock ∧ some k_ ≠ ((.slice Ao44 t217.length co44) : Value).ownBlock ∧ some k_ ≠ ((.slice Ao48 t220.length co48) : Value).ownBlock ∧ some k_ ≠ ((.slice Ao52 t224.length co52) : Value).ownBlock ∧ some k_ ≠ ((.slice Ao57 t227.length co57) : Value).ownBlock) v214 t213) ∧ Aside0 (Kd.R (Kd.int .i64) 3 wc w.heap.size (fun k_ => some k_ ≠ (v214 : Value).ownBlock ∧ some k_ ≠ ((.slice Ao44 t217.length co44) : Value).ownBlock ∧ some k_ ≠ ((.slice Ao48 t220.length co48) : Value).ownBlock ∧ some k_ ≠ ((.slice Ao52 t224.length co52) : Value).ownBlock ∧ some k_ ≠ ((.slice Ao57 t227.length co57) : Value).ownBlock) v232 t231) ∧ Aside0 (Kd.R (Kd.int .i64) 3 wc w.heap.size (fun k_ => some k_ ≠ (v214 : Value).ownBlock ∧ some k_ ≠ (v232 : Value).ownBlock ∧ some k_ ≠ ((.slice Ao48 t220.length co48) : Value).ownBlock ∧ some k_ ≠ ((.slice Ao52 t224.length co52) : Value).ownBlock ∧ some k_ ≠ ((.slice Ao57 t227.length co57) : Value).ownBlock) (.slice Ao44 t217.length co44) t251) ∧ Aside0 (Kd.R (Kd.int .i64) 3 wc w.heap.size (fun k_ => some k_ ≠ (v214 : Value).ownBlock ∧ some k_ ≠ (v232 : Value).ownBlock ∧ some k_ ≠ ((.slice Ao44 t217.length co44) : Value).ownBlock ∧ some k_ ≠ ((.slice Ao52 t224.length co52) : Value).ownBlock ∧ some k_ ≠ ((.slice Ao57 t227.length co57) : Value).ownBlock) (.slice Ao48 t220.length co48) t252) ∧ Aside0 (Kd.R (Kd.int .i64) 3 wc w.heap.size (fun k_ => some k_ ≠ (v214 : Value).ownBlock ∧ some k_ ≠ (v232 : Value).ownBlock ∧ some k_ ≠ ((.slice Ao44 t217.length co44) : Value).ownBlock ∧ some k_ ≠ ((.slice Ao48 t220.length co48) : Value).ownBlock ∧ some k_ ≠ ((.slice Ao57 t227.length co57) : Value).ownBlock) (.slice Ao52 t224.length co52) t254) ∧ Aside0 (Kd.R (Kd.int .i64) 3 wc w.heap.size (fun k_ => some k_ ≠ (v214 : Value).ownBlock ∧ some k_ ≠ (v232 : Value).ownBlock ∧ some k_ ≠ ((.slice Ao44 t217.length co44) : Value).ownBlock ∧ some k_ ≠ ((.slice Ao48 t220.length co48) : Value).ownBlock ∧ some k_ ≠ ((.slice Ao52 t224.length co52) : Value).ownBlock) (.slice Ao57 t227.length co57) t255) ∧ Aside0 (wc.heap[gb197]? = some (.cells #[(.slice A0_0 l0_0.length c0_0), (.slice A0_1 l0_1.length c0_1)] 37 (0, 0))) ∧ Aside0 (wc.heap[gb198]? = some (.cells #[(.slice A1_0 l1_0.length c1_0), (.slice A1_1 l1_1.length c1_1)] 37 (0, 0))) ∧ Aside0 (wc.heap[gb223]? = some (.cells #[(.slice Ao44 t217.length co44), (.slice Ao48 t220.length co48)] 26 (0, 0))) ∧ Aside0 (wc.heap[gb230]? = some (.cells #[(.slice Ao52 t224.length co52), (.slice Ao57 t227.length co57)] 26 (0, 0))) ∧ Aside0 (Below w.heap.size w wc))
                case first =>
                  have H := HC73.out
                  clear HC73
                  by_cases c93 : t253 < 0
                  · rw [if_pos c93] at H
                    have c93b0 : decide (t253 < 0) = true := decide_eq_true c93
                    clear c93
                    (first | rw [c93b0] | (simp only [i64_w, i32_w]; rw [c93b0]) | skip)
                    have hz_ : ∀ kz, laws_FnExactFit.j1 kz t213 t216 t231 true l0_0 l0_1 l1_0 l1_1 = some r → r = false := by intro kz hz; cases kz with | zero => exact absurd hz (by simp [laws_FnExactFit.j1]) | succ kz => simp only [laws_FnExactFit.j1] at hz; first | (rw [if_pos rfl] at hz; exact (Option.some.inj hz).symm) | (simp at hz; exact hz.symm) | (simp at hz; exact hz)
                    exact absurd (HT.out.symm.trans (hz_ _ H)) (by decide)
                  · rw [if_neg c93] at H
                    have c93b0 : decide (t253 < 0) = false := decide_eq_false c93
                    clear c93
                    (first | rw [c93b0] | (simp only [i64_w, i32_w]; rw [c93b0]) | skip)
                    replace H := Option.bind_eq_some_iff.mp H
                    obtain ⟨t256, A940, H⟩ := H
                    replace H : (if t256 = true then (laws_FnExactFit.j1 kj24 t213 t216 t231 (t234 != t216) l0_0 l0_1 l1_0 l1_1) else (laws_FnExactFit.j1 kj24 t213 t216 t231 true l0_0 l0_1 l1_0 l1_1)) = some r := H
                    have A94 := Aside0.mk A940
                    clear A940
                    by_cases c95 : t256 = true
                    · subst c95
                      have H1 : (laws_FnExactFit.j1 kj24 t213 t216 t231 (t234 != t216) l0_0 l0_1 l1_0 l1_1) = some r := by rw [if_pos rfl] at H; exact H
                      clear H
                      have H := H1
                      clear H1
                      have H' := Aside0.mk H
                      clear H
                      obtain ⟨Ao96, co96, eo96⟩ := Kd.R_slice HO_10.out
                      subst eo96
                      obtain ⟨Ao97, co97, eo97⟩ := Kd.R_slice HO_6.out
                      subst eo97
                      go_wp2_with (first | (go_at_call 29; (repeat rw [i64_w]); (with_reducible refine (laws_eqIntS.calls kj24 _ _ t231 _ _ t213 true _ ?side1 ?side2 ?side3 ?side4 A94.out).mono ?_); (case side1 => repeat (first | exact (Kd.R_reads' HO_10.out).2.2 | (with_reducible refine Kd.C_alloc ?_ _) | (with_reducible refine Kd.C_drewN ?_ _) | (with_reducible refine Kd.C_drew ?_))); (case side2 => exact (Kd.R_reads' HO_10.out).2.1); (case side3 => repeat (first | exact (Kd.R_reads' HO_6.out).2.2 | (with_reducible refine Kd.C_alloc ?_ _) | (with_reducible refine Kd.C_drewN ?_ _) | (with_reducible refine Kd.C_drew ?_))); (case side4 => exact (Kd.R_reads' HO_6.out).2.1); rintro e w' ⟨rfl, ⟨nd, rfl⟩⟩))
                      go_meet
                      case rel => exact ⟨_, ((t234 != t216)), (by first | rfl | (simp; done) | (simp [*]; done)), H', ⟨by have := HJ24.out; first | omega | exact Nat.le_refl _⟩, ⟨by (with_reducible repeat (first | apply Kd.R_alloc | apply Kd.R_drewN | apply Kd.R_drew)); exact Kd.R_mono HO_6.out (fun _ hk => ⟨hk.1, ⟨hk.2.1, ⟨hk.2.2.1, ⟨hk.2.2.2.1, hk.2.2.2.2.1⟩⟩⟩⟩)⟩, ⟨by (with_reducible repeat (first | apply Kd.R_alloc | apply Kd.R_drewN | apply Kd.R_drew)); exact Kd.R_mono HO_10.out (fun _ hk => ⟨hk.1, ⟨hk.2.1, ⟨hk.2.2.1, ⟨hk.2.2.2.1, hk.2.2.2.2.1⟩⟩⟩⟩)⟩, ⟨by (with_reducible repeat (first | apply Kd.R_alloc | apply Kd.R_drewN | apply Kd.R_drew)); exact Kd.R_mono HO_224000.out (fun _ hk => ⟨hk.1, ⟨hk.2.1, ⟨hk.2.2.1, ⟨hk.2.2.2.1, hk.2.2.2.2.1⟩⟩⟩⟩)⟩, ⟨by (with_reducible repeat (first | apply Kd.R_alloc | apply Kd.R_drewN | apply Kd.R_drew)); exact Kd.R_mono HO_224001.out (fun _ hk => ⟨hk.1, ⟨hk.2.1, ⟨hk.2.2.1, ⟨hk.2.2.2.1, hk.2.2.2.2.1⟩⟩⟩⟩)⟩, ⟨by (with_reducible repeat (first | apply Kd.R_alloc | apply Kd.R_drewN | apply Kd.R_drew)); exact Kd.R_mono HO_231000.out (fun _ hk => ⟨hk.1, ⟨hk.2.1, ⟨hk.2.2.1, ⟨hk.2.2.2.1, hk.2.2.2.2.1⟩⟩⟩⟩)⟩, ⟨by (with_reducible repeat (first | apply Kd.R_alloc | apply Kd.R_drewN | apply Kd.R_drew)); exact Kd.R_mono HO_231001.out (fun _ hk => ⟨hk.1, ⟨hk.2.1, ⟨hk.2.2.1, ⟨hk.2.2.2.1, hk.2.2.2.2.1⟩⟩⟩⟩)⟩, ⟨by (with_reducible repeat (first | refine blk_drewN ?_ _ | refine blk_drew ?_ | refine blk_alloc ?_ _)); exact BK197.out⟩, ⟨by (with_reducible repeat (first | refine blk_drewN ?_ _ | refine blk_drew ?_ | refine blk_alloc ?_ _)); exact BK198.out⟩, ⟨by (with_reducible repeat (first | refine blk_drewN ?_ _ | refine blk_drew ?_ | refine blk_alloc ?_ _)); exact BK223.out⟩, ⟨by (with_reducible repeat (first | refine blk_drewN ?_ _ | refine blk_drew ?_ | refine blk_alloc ?_ _)); exact BK230.out⟩, ⟨by repeat (first | (with_reducible first | exact HB.out | apply below_alloc | apply pw_below_drewN | apply below_drew1 | refine below_set ?_ GE197.out | refine below_set ?_ GE198.out | refine below_set ?_ GE223.out | refine below_set ?_ GE230.out) | exact HB.out)⟩⟩
                    · replace c95 := Bool.eq_false_iff.mpr c95
                      subst c95
                      have H1 : (laws_FnExactFit.j1 kj24 t213 t216 t231 true l0_0 l0_1 l1_0 l1_1) = some r := by rw [if_neg (show ¬ (false = true) by decide)] at H; exact H
                      clear H
                      have H := H1
                      clear H1
                      have hz_ : ∀ kz, laws_FnExactFit.j1 kz t213 t216 t231 true l0_0 l0_1 l1_0 l1_1 = some r → r = false := by intro kz hz; cases kz with | zero => exact absurd hz (by simp [laws_FnExactFit.j1]) | succ kz => simp only [laws_FnExactFit.j1] at hz; first | (rw [if_pos rfl] at hz; exact (Option.some.inj hz).symm) | (simp at hz; exact hz.symm) | (simp at hz; exact hz)
                      exact absurd (HT.out.symm.trans (hz_ _ H)) (by decide)
                case rest =>
                  clear HC73
                  try clear c1
                  try clear c2
                  try clear p2
                  try clear c3
                  try clear c4
                  try clear c4b0
                  try clear c5
                  try clear c6
                  try clear c7
                  try clear c8
                  try clear c9
                  try clear c11
                  try clear c11b0
                  try clear c14
                  try clear c19
                  try clear c23
                  try clear c25
                  try clear c28
                  try clear c29
                  try clear c32
                  try clear c38
                  try clear c45
                  try clear c46
                  try clear c53
                  try clear c54
                  try clear c55
                  try clear c61
                  try clear c64
                  try clear c67
                  try clear c70
                  try clear c84
                  try clear c85
                  try clear c86
                  try clear c89
                  try clear c90
                  try clear c93
                  try clear c93b0
                  try clear c95
                  try clear hcz15_0
                  try clear hcz15_1
                  try clear hcz17_0
                  try clear hcz17_1
                  try clear hcz29_0
                  try clear hcz29_1
                  try clear hcz31_0
                  try clear hcz31_1
                  try clear hcz41_0
                  try clear hcz41_1
                  try clear hcz47_0
                  try clear hcz47_1
                  try clear hcz49_0
                  try clear hcz49_1
                  try clear hcz56_0
                  try clear hcz56_1
                  try clear hcz58_0
                  try clear hcz58_1
                  try clear hcz87_0
                  try clear hcz87_1
                  try clear hcz8_0
                  try clear hcz8_1
                  try clear hcz91_0
                  try clear hcz91_1
                  try clear hfz15_0
                  try clear hfz15_1
                  try clear hfz17_0
                  try clear hfz17_1
                  try clear hfz29_0
                  try clear hfz29_1
                  try clear hfz31_0
                  try clear hfz31_1
                  try clear hfz41_0
                  try clear hfz41_1
                  try clear hfz47_0
                  try clear hfz47_1
                  try clear hfz49_0
                  try clear hfz49_1
                  try clear hfz56_0
                  try clear hfz56_1
                  try clear hfz58_0
                  try clear hfz58_1
                  try clear hfz87_0
                  try clear hfz87_1
                  try clear hfz8_0
                  try clear hfz8_1
                  try clear hfz91_0
                  try clear hfz91_1
                  try clear p2
                  obtain ⟨kq, x82_72, rfl, HA, HJ72, HO_6, HO_10, HO_224000, HO_224001, HO_231000, HO_231001, BK197, BK198, BK223, BK230, HB⟩ := hcut
                  have hl224000_72 := (Kd.R_reads' HO_224000.out).1
                  rw [hl224000_72] at HO_224000
                  (try simp only [hl224000_72])
                  (try simp only [hl224000_72] at BK197)
                  (try simp only [hl224000_72] at BK198)
                  (try simp only [hl224000_72] at BK223)
                  (try simp only [hl224000_72] at BK230)
                  (try simp only [hl224000_72] at HO_6)
                  (try simp only [hl224000_72] at HO_10)
                  (try simp only [hl224000_72] at HO_224001)
                  (try simp only [hl224000_72] at HO_231000)
                  (try simp only [hl224000_72] at HO_231001)
                  have hl224001_72 := (Kd.R_reads' HO_224001.out).1
                  rw [hl224001_72] at HO_224001
                  (try simp only [hl224001_72])
                  (try simp only [hl224001_72] at BK197)
                  (try simp only [hl224001_72] at BK198)
                  (try simp only [hl224001_72] at BK223)
                  (try simp only [hl224001_72] at BK230)
                  (try simp only [hl224001_72] at HO_6)
                  (try simp only [hl224001_72] at HO_10)
                  (try simp only [hl224001_72] at HO_224000)
                  (try simp only [hl224001_72] at HO_231000)
                  (try simp only [hl224001_72] at HO_231001)
                  have hl231000_72 := (Kd.R_reads' HO_231000.out).1
                  rw [hl231000_72] at HO_231000
                  (try simp only [hl231000_72])
                  (try simp only [hl231000_72] at BK197)
                  (try simp only [hl231000_72] at BK198)
                  (try simp only [hl231000_72] at BK223)
                  (try simp only [hl231000_72] at BK230)
                  (try simp only [hl231000_72] at HO_6)
                  (try simp only [hl231000_72] at HO_10)
                  (try simp only [hl231000_72] at HO_224000)
                  (try simp only [hl231000_72] at HO_224001)
                  (try simp only [hl231000_72] at HO_231001)
                  have hl231001_72 := (Kd.R_reads' HO_231001.out).1
                  rw [hl231001_72] at HO_231001
                  (try simp only [hl231001_72])
                  (try simp only [hl231001_72] at BK197)
                  (try simp only [hl231001_72] at BK198)
                  (try simp only [hl231001_72] at BK223)
                  (try simp only [hl231001_72] at BK230)
                  (try simp only [hl231001_72] at HO_6)
                  (try simp only [hl231001_72] at HO_10)
                  (try simp only [hl231001_72] at HO_224000)
                  (try simp only [hl231001_72] at HO_224001)
                  (try simp only [hl231001_72] at HO_231000)
                  cases kq with
                  | zero => exact absurd HA.out (by simp [laws_FnExactFit.j1])
                  | succ kj72 =>
                    have H := HA.out
                    clear HA
                    simp only [laws_FnExactFit.j1] at H
                    by_cases c98 : x82_72 = true
                    · subst c98
                      have H1 : (some false) = some r := by rw [if_pos rfl] at H; exact H
                      clear H
                      have H := H1
                      clear H1
                      obtain rfl := Option.some.inj H
                      exact absurd HT.out (by decide)
                    · replace c98 := Bool.eq_false_iff.mpr c98
                      subst c98
                      have H1 : ((laws_markIntS.f kj72 t231 1).bind fun bt257 => ((laws_heldIntS.f kj72 bt257.2 1).bind fun t259 => (if t259 < 0 then (some false) else (if t259 = bt257.1 then ((laws_toArray.f kj72 l0_0 l0_1).bind fun bt260 => ((laws_toArray.f kj72 l1_0 l1_1).bind fun bt266 => ((impl_Fit.f kj72 bt260.1 bt260.2 bt266.1 bt266.2).bind fun bt272 => ((laws_eqIntS.f kj72 bt272.1 t213).bind fun t276 => (if t276 = true then (laws_FnExactFit.j2 kj72 bt257.2 bt257.1 (bt272.2 != t216)) else (laws_FnExactFit.j2 kj72 bt257.2 bt257.1 true)))))) else (some false))))) = some r := by rw [if_neg (show ¬ (false = true) by decide)] at H; exact H
                      clear H
                      have H := H1
                      clear H1
                      replace H := Option.bind_eq_some_iff.mp H
                      obtain ⟨⟨t257, t258⟩, A990, H⟩ := H
                      replace H : ((laws_heldIntS.f kj72 t258 1).bind fun t259 => (if t259 < 0 then (some false) else (if t259 = t257 then ((laws_toArray.f kj72 l0_0 l0_1).bind fun bt260 => ((laws_toArray.f kj72 l1_0 l1_1).bind fun bt266 => ((impl_Fit.f kj72 bt260.1 bt260.2 bt266.1 bt266.2).bind fun bt272 => ((laws_eqIntS.f kj72 bt272.1 t213).bind fun t276 => (if t276 = true then (laws_FnExactFit.j2 kj72 t258 t257 (bt272.2 != t216)) else (laws_FnExactFit.j2 kj72 t258 t257 true)))))) else (some false)))) = some r := H
                      have A99 := Aside0.mk A990
                      clear A990
                      replace H := Option.bind_eq_some_iff.mp H
                      obtain ⟨t259, A1000, H⟩ := H
                      replace H : (if t259 < 0 then (some false) else (if t259 = t257 then ((laws_toArray.f kj72 l0_0 l0_1).bind fun bt260 => ((laws_toArray.f kj72 l1_0 l1_1).bind fun bt266 => ((impl_Fit.f kj72 bt260.1 bt260.2 bt266.1 bt266.2).bind fun bt272 => ((laws_eqIntS.f kj72 bt272.1 t213).bind fun t276 => (if t276 = true then (laws_FnExactFit.j2 kj72 t258 t257 (bt272.2 != t216)) else (laws_FnExactFit.j2 kj72 t258 t257 true)))))) else (some false))) = some r := H
                      have A100 := Aside0.mk A1000
                      clear A1000
                      by_cases c101 : t259 < 0
                      · rw [if_pos c101] at H
                        have c101b0 : decide (t259 < 0) = true := decide_eq_true c101
                        clear c101
                        obtain rfl := Option.some.inj H
                        exact absurd HT.out (by decide)
                      · rw [if_neg c101] at H
                        have c101b0 : decide (t259 < 0) = false := decide_eq_false c101
                        clear c101
                        by_cases c102 : t259 = t257
                        · rw [if_pos c102] at H
                          have c102b0 : (t259 == t257) = true := beq_iff_eq.mpr c102
                          have c102b1 : (t259 != t257) = false := bne_eq_false_iff_eq.mpr c102
                          clear c102
                          replace H := Option.bind_eq_some_iff.mp H
                          obtain ⟨⟨t260, t263⟩, A1030, H⟩ := H
                          replace H : ((laws_toArray.f kj72 l1_0 l1_1).bind fun bt266 => ((impl_Fit.f kj72 t260 t263 bt266.1 bt266.2).bind fun bt272 => ((laws_eqIntS.f kj72 bt272.1 t213).bind fun t276 => (if t276 = true then (laws_FnExactFit.j2 kj72 t258 t257 (bt272.2 != t216)) else (laws_FnExactFit.j2 kj72 t258 t257 true))))) = some r := H
                          have A103 := Aside0.mk A1030
                          clear A1030
                          replace H := Option.bind_eq_some_iff.mp H
                          obtain ⟨⟨t266, t269⟩, A1040, H⟩ := H
                          replace H : ((impl_Fit.f kj72 t260 t263 t266 t269).bind fun bt272 => ((laws_eqIntS.f kj72 bt272.1 t213).bind fun t276 => (if t276 = true then (laws_FnExactFit.j2 kj72 t258 t257 (bt272.2 != t216)) else (laws_FnExactFit.j2 kj72 t258 t257 true)))) = some r := H
                          have A104 := Aside0.mk A1040
                          clear A1040
                          replace H := Option.bind_eq_some_iff.mp H
                          obtain ⟨⟨t272, t275⟩, A1050, H⟩ := H
                          replace H : ((laws_eqIntS.f kj72 t272 t213).bind fun t276 => (if t276 = true then (laws_FnExactFit.j2 kj72 t258 t257 (t275 != t216)) else (laws_FnExactFit.j2 kj72 t258 t257 true))) = some r := H
                          have A105 := Aside0.mk A1050
                          clear A1050
                          have HC106 := Aside0.mk H
                          clear H
                          obtain ⟨Ao107, co107, eo107⟩ := Kd.R_slice HO_10.out
                          subst eo107
                          try go_wp2_with (first | ((with_reducible refine gate_callee (f := 39) rfl ?_); refine goesL_ (some 85) rfl rfl Try.func39 (by kernel_rfl) rfl #[.slice Ao107 t231.length co107, .int .i64 1] rfl (by (try simp only [List.map_toArray, List.map_cons, List.map_nil]); first | done | rfl | (simp only [List.length_drop, List.length_take]; rfl)) ?_; (with_reducible refine (laws_markIntS.calls kj72 (fun k_ => some k_ = (.slice Ao107 t231.length co107 : Value).ownBlock) (.slice Ao107 t231.length co107) t231 1 t257 t258 w _ ?side1 ?side2 A99.out).mono ?_); (case side1 => repeat (first | (with_reducible first | exact HB.out | apply below_alloc | apply pw_below_drewN | apply below_drew1 | refine below_set ?_ GE197.out | refine below_set ?_ GE198.out | refine below_set ?_ GE223.out | refine below_set ?_ GE230.out) | exact HB.out)); (case side2 => exact Kd.R_tight rfl HO_10.out); rintro e w108 ⟨rfl, hy0, hb, hkp⟩; refine ⟨_, rfl, ?_⟩; have n0_ := Aside0.mk (Kd.R_mono (ok' := fun k_ => some k_ ≠ (.slice Ao107 t231.length co107 : Value).ownBlock ∧ some k_ ≠ (.slice Ao44 t251.length co44 : Value).ownBlock ∧ some k_ ≠ (.slice Ao48 t252.length co48 : Value).ownBlock ∧ some k_ ≠ (.slice Ao52 t254.length co52 : Value).ownBlock ∧ some k_ ≠ (.slice Ao57 t255.length co57 : Value).ownBlock) (Kd.R_keptB (HO_6.out) hkp (fun k_ hk_ hs_ => (hk_.1) hs_)) (fun k_ hk_ => ⟨hk_.1.1, hk_.1.2.1, hk_.1.2.2.1, hk_.1.2.2.2.1, hk_.1.2.2.2.2⟩)); have n1_ := Aside0.mk (Kd.R_reok rfl hy0 (fun k_ e_ => HO_10.out.1 k_ e_)); have n2_ := Aside0.mk (Kd.R_mono (ok' := fun k_ => some k_ ≠ (v214 : Value).ownBlock ∧ some k_ ≠ (.slice Ao107 t231.length co107 : Value).ownBlock ∧ some k_ ≠ (.slice Ao48 t252.length co48 : Value).ownBlock ∧ some k_ ≠ (.slice Ao52 t254.length co52 : Value).ownBlock ∧ some k_ ≠ (.slice Ao57 t255.length co57 : Value).ownBlock) (Kd.R_keptB (HO_224000.out) hkp (fun k_ hk_ hs_ => (hk_.2.1) hs_)) (fun k_ hk_ => ⟨hk_.1.1, hk_.1.2.1, hk_.1.2.2.1, hk_.1.2.2.2.1, hk_.1.2.2.2.2⟩)); have n3_ := Aside0.mk (Kd.R_mono (ok' := fun k_ => some k_ ≠ (v214 : Value).ownBlock ∧ some k_ ≠ (.slice Ao107 t231.length co107 : Value).ownBlock ∧ some k_ ≠ (.slice Ao44 t251.length co44 : Value).ownBlock ∧ some k_ ≠ (.slice Ao52 t254.length co52 : Value).ownBlock ∧ some k_ ≠ (.slice Ao57 t255.length co57 : Value).ownBlock) (Kd.R_keptB (HO_224001.out) hkp (fun k_ hk_ hs_ => (hk_.2.1) hs_)) (fun k_ hk_ => ⟨hk_.1.1, hk_.1.2.1, hk_.1.2.2.1, hk_.1.2.2.2.1, hk_.1.2.2.2.2⟩)); have n4_ := Aside0.mk (Kd.R_mono (ok' := fun k_ => some k_ ≠ (v214 : Value).ownBlock ∧ some k_ ≠ (.slice Ao107 t231.length co107 : Value).ownBlock ∧ some k_ ≠ (.slice Ao44 t251.length co44 : Value).ownBlock ∧ some k_ ≠ (.slice Ao48 t252.length co48 : Value).ownBlock ∧ some k_ ≠ (.slice Ao57 t255.length co57 : Value).ownBlock) (Kd.R_keptB (HO_231000.out) hkp (fun k_ hk_ hs_ => (hk_.2.1) hs_)) (fun k_ hk_ => ⟨hk_.1.1, hk_.1.2.1, hk_.1.2.2.1, hk_.1.2.2.2.1, hk_.1.2.2.2.2⟩)); have n5_ := Aside0.mk (Kd.R_mono (ok' := fun k_ => some k_ ≠ (v214 : Value).ownBlock ∧ some k_ ≠ (.slice Ao107 t231.length co107 : Value).ownBlock ∧ some k_ ≠ (.slice Ao44 t251.length co44 : Value).ownBlock ∧ some k_ ≠ (.slice Ao48 t252.length co48 : Value).ownBlock ∧ some k_ ≠ (.slice Ao52 t254.length co52 : Value).ownBlock) (Kd.R_keptB (HO_231001.out) hkp (fun k_ hk_ hs_ => (hk_.2.1) hs_)) (fun k_ hk_ => ⟨hk_.1.1, hk_.1.2.1, hk_.1.2.2.1, hk_.1.2.2.2.1, hk_.1.2.2.2.2⟩)); have n6_ := Aside0.mk (blk_kept (by (with_reducible repeat (first | refine blk_drewN ?_ _ | refine blk_drew ?_ | refine blk_alloc ?_ _)); exact BK197.out) hkp (fun hs_ => (fun e_ => (Kd.R_ne HO_10.out BK197.out (by decide)) e_) hs_)); have n7_ := Aside0.mk (blk_kept (by (with_reducible repeat (first | refine blk_drewN ?_ _ | refine blk_drew ?_ | refine blk_alloc ?_ _)); exact BK198.out) hkp (fun hs_ => (fun e_ => (Kd.R_ne HO_10.out BK198.out (by decide)) e_) hs_)); have n8_ := Aside0.mk (blk_kept (by (with_reducible repeat (first | refine blk_drewN ?_ _ | refine blk_drew ?_ | refine blk_alloc ?_ _)); exact BK223.out) hkp (fun hs_ => (fun e_ => (Kd.R_ne HO_10.out BK223.out (by decide)) e_) hs_)); have n9_ := Aside0.mk (blk_kept (by (with_reducible repeat (first | refine blk_drewN ?_ _ | refine blk_drew ?_ | refine blk_alloc ?_ _)); exact BK230.out) hkp (fun hs_ => (fun e_ => (Kd.R_ne HO_10.out BK230.out (by decide)) e_) hs_)); have n10_ := Aside0.mk (hb); clear HO_6; clear HO_10; clear HO_224000; clear HO_224001; clear HO_231000; clear HO_231001; clear BK197; clear BK198; clear BK223; clear BK230; clear HB; have HO_6 := n0_; have HO_10 := n1_; have HO_224000 := n2_; have HO_224001 := n3_; have HO_231000 := n4_; have HO_231001 := n5_; have BK197 := n6_; have BK198 := n7_; have BK223 := n8_; have BK230 := n9_; have HB := n10_; clear n0_ n1_ n2_ n3_ n4_ n5_ n6_ n7_ n8_ n9_ n10_; (try clear hb); (try clear hkp); (try clear hy0)) | ((with_reducible refine gate_callee (f := 40) rfl ?_); refine goesL_ (some 88) rfl rfl Try.func40 (by kernel_rfl) rfl #[.slice Ao107 t258.length co107, .int .i64 1] rfl (by (try simp only [List.map_toArray, List.map_cons, List.map_nil]); first | done | (rw [show t258.length = t231.length from (Kd.R_reads' HO_10.out).1.symm] <;> rfl) | rfl | (simp only [List.length_drop, List.length_take]; rfl)) ?_; (with_reducible refine (laws_heldIntS.calls kj72 _ _ t258 1 t259 _ ?side1 ?side2 A100.out).mono ?_); (case side1 => repeat (first | exact (Kd.R_reads' HO_10.out).2.2 | (with_reducible refine Kd.C_alloc ?_ _) | (with_reducible refine Kd.C_drewN ?_ _) | (with_reducible refine Kd.C_drew ?_))); (case side2 => rw [show t258.length = t231.length from (Kd.R_reads' HO_10.out).1.symm]; exact (Kd.R_reads' HO_10.out).2.1); rintro e w' ⟨rfl, ⟨nd, rfl⟩⟩; refine ⟨_, rfl, ?_⟩))
                          (try (rw [drewN_self w108]; generalize hq_ : World.drewN w108 _ = w108; have n0_ : Aside0 (Kd.R (Kd.int .i64) 3 w108 w.heap.size (fun k_ => some k_ ≠ (.slice Ao44 t251.length co44 : Value).ownBlock ∧ some k_ ≠ (.slice Ao48 t252.length co48 : Value).ownBlock ∧ some k_ ≠ (.slice Ao52 t254.length co52 : Value).ownBlock ∧ some k_ ≠ (.slice Ao57 t255.length co57 : Value).ownBlock ∧ some k_ ≠ (v214 : Value).ownBlock) (.slice Ao107 t231.length co107) t258) := ⟨by rw [← hq_]; exact (by (with_reducible repeat (first | apply Kd.R_alloc | apply Kd.R_drewN | apply Kd.R_drew)); exact Kd.R_mono HO_10.out (fun _ hk => ⟨hk.2.1, ⟨hk.2.2.1, ⟨hk.2.2.2.1, ⟨hk.2.2.2.2, hk.1⟩⟩⟩⟩))⟩; have n1_ : Aside0 (Kd.R (Kd.int .i64) 3 w108 w.heap.size (fun k_ => some k_ ≠ (.slice Ao107 t231.length co107 : Value).ownBlock ∧ some k_ ≠ (.slice Ao48 t252.length co48 : Value).ownBlock ∧ some k_ ≠ (.slice Ao52 t254.length co52 : Value).ownBlock ∧ some k_ ≠ (.slice Ao57 t255.length co57 : Value).ownBlock ∧ some k_ ≠ (v214 : Value).ownBlock) (.slice Ao44 t251.length co44) t251) := ⟨by rw [← hq_]; exact (by (with_reducible repeat (first | apply Kd.R_alloc | apply Kd.R_drewN | apply Kd.R_drew)); exact Kd.R_mono HO_224000.out (fun _ hk => ⟨hk.2.1, ⟨hk.2.2.1, ⟨hk.2.2.2.1, ⟨hk.2.2.2.2, hk.1⟩⟩⟩⟩))⟩; have n2_ : Aside0 (Kd.R (Kd.int .i64) 3 w108 w.heap.size (fun k_ => some k_ ≠ (.slice Ao107 t231.length co107 : Value).ownBlock ∧ some k_ ≠ (.slice Ao44 t251.length co44 : Value).ownBlock ∧ some k_ ≠ (.slice Ao52 t254.length co52 : Value).ownBlock ∧ some k_ ≠ (.slice Ao57 t255.length co57 : Value).ownBlock ∧ some k_ ≠ (v214 : Value).ownBlock) (.slice Ao48 t252.length co48) t252) := ⟨by rw [← hq_]; exact (by (with_reducible repeat (first | apply Kd.R_alloc | apply Kd.R_drewN | apply Kd.R_drew)); exact Kd.R_mono HO_224001.out (fun _ hk => ⟨hk.2.1, ⟨hk.2.2.1, ⟨hk.2.2.2.1, ⟨hk.2.2.2.2, hk.1⟩⟩⟩⟩))⟩; have n3_ : Aside0 (Kd.R (Kd.int .i64) 3 w108 w.heap.size (fun k_ => some k_ ≠ (.slice Ao107 t231.length co107 : Value).ownBlock ∧ some k_ ≠ (.slice Ao44 t251.length co44 : Value).ownBlock ∧ some k_ ≠ (.slice Ao48 t252.length co48 : Value).ownBlock ∧ some k_ ≠ (.slice Ao57 t255.length co57 : Value).ownBlock ∧ some k_ ≠ (v214 : Value).ownBlock) (.slice Ao52 t254.length co52) t254) := ⟨by rw [← hq_]; exact (by (with_reducible repeat (first | apply Kd.R_alloc | apply Kd.R_drewN | apply Kd.R_drew)); exact Kd.R_mono HO_231000.out (fun _ hk => ⟨hk.2.1, ⟨hk.2.2.1, ⟨hk.2.2.2.1, ⟨hk.2.2.2.2, hk.1⟩⟩⟩⟩))⟩; have n4_ : Aside0 (Kd.R (Kd.int .i64) 3 w108 w.heap.size (fun k_ => some k_ ≠ (.slice Ao107 t231.length co107 : Value).ownBlock ∧ some k_ ≠ (.slice Ao44 t251.length co44 : Value).ownBlock ∧ some k_ ≠ (.slice Ao48 t252.length co48 : Value).ownBlock ∧ some k_ ≠ (.slice Ao52 t254.length co52 : Value).ownBlock ∧ some k_ ≠ (v214 : Value).ownBlock) (.slice Ao57 t255.length co57) t255) := ⟨by rw [← hq_]; exact (by (with_reducible repeat (first | apply Kd.R_alloc | apply Kd.R_drewN | apply Kd.R_drew)); exact Kd.R_mono HO_231001.out (fun _ hk => ⟨hk.2.1, ⟨hk.2.2.1, ⟨hk.2.2.2.1, ⟨hk.2.2.2.2, hk.1⟩⟩⟩⟩))⟩; have n5_ : Aside0 (Kd.R (Kd.int .i64) 3 w108 w.heap.size (fun k_ => some k_ ≠ (.slice Ao107 t231.length co107 : Value).ownBlock ∧ some k_ ≠ (.slice Ao44 t251.length co44 : Value).ownBlock ∧ some k_ ≠ (.slice Ao48 t252.length co48 : Value).ownBlock ∧ some k_ ≠ (.slice Ao52 t254.length co52 : Value).ownBlock ∧ some k_ ≠ (.slice Ao57 t255.length co57 : Value).ownBlock) v214 t213) := ⟨by rw [← hq_]; exact (by (with_reducible repeat (first | apply Kd.R_alloc | apply Kd.R_drewN | apply Kd.R_drew)); exact HO_6.out)⟩; have n6_ : Aside0 (w108.heap[gb197]? = some (.cells #[.slice A0_0 l0_0.length c0_0, .slice A0_1 l0_1.length c0_1] 37 (0, 0))) := ⟨by rw [← hq_]; exact (by (with_reducible repeat (first | refine blk_drewN ?_ _ | refine blk_drew ?_ | refine blk_alloc ?_ _)); exact BK197.out)⟩; have n7_ : Aside0 (w108.heap[gb198]? = some (.cells #[.slice A1_0 l1_0.length c1_0, .slice A1_1 l1_1.length c1_1] 37 (0, 0))) := ⟨by rw [← hq_]; exact (by (with_reducible repeat (first | refine blk_drewN ?_ _ | refine blk_drew ?_ | refine blk_alloc ?_ _)); exact BK198.out)⟩; have n8_ : Aside0 (w108.heap[gb223]? = some (.cells #[.slice Ao44 t251.length co44, .slice Ao48 t252.length co48] 26 (0, 0))) := ⟨by rw [← hq_]; exact (by (with_reducible repeat (first | refine blk_drewN ?_ _ | refine blk_drew ?_ | refine blk_alloc ?_ _)); exact BK223.out)⟩; have n9_ : Aside0 (w108.heap[gb230]? = some (.cells #[.slice Ao52 t254.length co52, .slice Ao57 t255.length co57] 26 (0, 0))) := ⟨by rw [← hq_]; exact (by (with_reducible repeat (first | refine blk_drewN ?_ _ | refine blk_drew ?_ | refine blk_alloc ?_ _)); exact BK230.out)⟩; have n10_ : Aside0 (Below w.heap.size w w108) := ⟨by rw [← hq_]; exact (by repeat (first | (with_reducible first | exact HB.out | apply below_alloc | apply pw_below_drewN | apply below_drew1 | refine below_set ?_ GE197.out | refine below_set ?_ GE198.out | refine below_set ?_ GE223.out | refine below_set ?_ GE230.out) | exact HB.out))⟩; clear HO_10 HO_224000 HO_224001 HO_231000 HO_231001 HO_6 BK197 BK198 BK223 BK230 HB hq_; have HO_10 := n0_; have HO_224000 := n1_; have HO_224001 := n2_; have HO_231000 := n3_; have HO_231001 := n4_; have HO_6 := n5_; have BK197 := n6_; have BK198 := n7_; have BK223 := n8_; have BK230 := n9_; have HB := n10_; clear n0_ n1_ n2_ n3_ n4_ n5_ n6_ n7_ n8_ n9_ n10_))
                          have n0_ := Aside0.mk (Kd.R_drew HO_6.out)
                          have n1_ := Aside0.mk (Kd.R_drew HO_10.out)
                          have n2_ := Aside0.mk (Kd.R_drew HO_224000.out)
                          have n3_ := Aside0.mk (Kd.R_drew HO_224001.out)
                          have n4_ := Aside0.mk (Kd.R_drew HO_231000.out)
                          have n5_ := Aside0.mk (Kd.R_drew HO_231001.out)
                          have n6_ := Aside0.mk (blk_drew BK197.out)
                          have n7_ := Aside0.mk (blk_drew BK198.out)
                          have n8_ := Aside0.mk (blk_drew BK223.out)
                          have n9_ := Aside0.mk (blk_drew BK230.out)
                          have n10_ := Aside0.mk (below_drew1 HB.out)
                          clear HO_6
                          clear HO_10
                          clear HO_224000
                          clear HO_224001
                          clear HO_231000
                          clear HO_231001
                          clear BK197
                          clear BK198
                          clear BK223
                          clear BK230
                          clear HB
                          have HO_6 := n0_
                          have HO_10 := n1_
                          have HO_224000 := n2_
                          have HO_224001 := n3_
                          have HO_231000 := n4_
                          have HO_231001 := n5_
                          have BK197 := n6_
                          have BK198 := n7_
                          have BK223 := n8_
                          have BK230 := n9_
                          have HB := n10_
                          clear n0_ n1_ n2_ n3_ n4_ n5_ n6_ n7_ n8_ n9_ n10_
                          refine start_ (n := 10) (S := fun w' => w'.cell? ⟨gb197, 0, none⟩ = some (.slice A0_0 l0_0.length c0_0) ∧ w'.cell? ⟨gb197, 1, none⟩ = some (.slice A0_1 l0_1.length c0_1) ∧ w'.cell? ⟨gb198, 0, none⟩ = some (.slice A1_0 l1_0.length c1_0) ∧ w'.cell? ⟨gb198, 1, none⟩ = some (.slice A1_1 l1_1.length c1_1)) (ds := []) #[false, false, false, false, false, false, false, false, false, false] (by kernel_rfl) rfl rfl ⟨(blk_cell BK197.out 0).trans rfl, (blk_cell BK197.out 1).trans rfl, (blk_cell BK198.out 0).trans rfl, (blk_cell BK198.out 1).trans rfl⟩ (fun hHeld => ?_); refine with_tabW laws_FnExactFit.tab31 laws_FnExactFit.bits31 (fun HT_ HW_ => ?_)
                          generalize w108.drew = w109 at HO_6 HO_10 HO_224000 HO_224001 HO_231000 HO_231001 BK197 BK198 BK223 BK230 HB hHeld ⊢
                          refine take_ (i := 0) (N := some 95) (v := ?_) (a' := ?_) #[true, false, false, false, false, false, false, false, false, false] rfl rfl (take_ofW HT_.out HW_.out (by kernel_rfl)) (fun _ _ _ h => h) (Or.inl ⟨by rfl, ?_⟩) hHeld ?_ ?_
                          rotate_left
                          · rintro w' ⟨s0, s1, s2, s3⟩
                            go_simp
                            with_reducible rfl
                          rotate_left
                          · simp only [Act.put, List.setIfInBounds_toArray, List.set_cons_zero, List.set_cons_succ, i64_w, i32_w]
                            rfl
                          refine take_ (i := 2) (N := some 97) (v := ?_) (a' := ?_) #[true, false, true, false, false, false, false, false, false, false] rfl rfl (take_ofW HT_.out HW_.out (by kernel_rfl)) (fun _ _ _ h => h) (Or.inl ⟨by rfl, ?_⟩) hHeld ?_ ?_
                          rotate_left
                          · rintro w' ⟨s0, s1, s2, s3⟩
                            go_simp
                            with_reducible rfl
                          rotate_left
                          · simp only [Act.put, List.setIfInBounds_toArray, List.set_cons_zero, List.set_cons_succ, i64_w, i32_w]
                            rfl
                          refine one_ (i := 1) (N := some 96) #[true, true, true, false, false, false, false, false, false, false] rfl rfl (one_of HT_.out (by kernel_rfl)) (by decide) (fun K hK => ?_)
                          refine goes_ Try.func25 (by kernel_rfl) rfl #[.agg #[.slice A0_0 l0_0.length c0_0, .slice A0_1 l0_1.length c0_1]] (by rfl) rfl rfl (by (try simp only [List.map_toArray, List.map_cons, List.map_nil]); first | done | rfl | (simp only [List.length_drop, List.length_take]; rfl)) ?_
                          with_reducible refine (laws_toArray.calls kj72 _ _ l0_0 _ _ l0_1 t260 t263 _ ?side1 ?side2 ?side3 ?side4 A103.out).mono ?_
                          (case side1 => repeat (first | exact (Kd.C_below HR0_0.out HB.out) | (with_reducible refine Kd.C_alloc ?_ _) | (with_reducible refine Kd.C_drewN ?_ _) | (with_reducible refine Kd.C_drew ?_)))
                          (case side2 => exact HC0_0.out)
                          (case side3 => repeat (first | exact (Kd.C_below HR0_1.out HB.out) | (with_reducible refine Kd.C_alloc ?_ _) | (with_reducible refine Kd.C_drewN ?_ _) | (with_reducible refine Kd.C_drew ?_)))
                          (case side4 => exact HC0_1.out)
                          rintro e w110 ⟨v261, v264, rfl, ho0, ho1, hb⟩
                          refine ⟨_, rfl, ?_⟩
                          have n0_ := Aside0.mk (Kd.R_mono (Kd.R_told (Kd.R_told (Kd.R_old (by (with_reducible repeat (first | apply Kd.R_alloc | apply Kd.R_drewN | apply Kd.R_drew)); exact HO_6.out) hb) (Kd.R_base ho0)) (Kd.R_base ho1)) (fun _ h_ => h_.1))
                          have n1_ := Aside0.mk (Kd.R_mono (Kd.R_told (Kd.R_told (Kd.R_old (by (with_reducible repeat (first | apply Kd.R_alloc | apply Kd.R_drewN | apply Kd.R_drew)); exact HO_10.out) hb) (Kd.R_base ho0)) (Kd.R_base ho1)) (fun _ h_ => h_.1))
                          have n2_ := Aside0.mk (Kd.R_mono (Kd.R_told (Kd.R_told (Kd.R_old (by (with_reducible repeat (first | apply Kd.R_alloc | apply Kd.R_drewN | apply Kd.R_drew)); exact HO_224000.out) hb) (Kd.R_base ho0)) (Kd.R_base ho1)) (fun _ h_ => h_.1))
                          have n3_ := Aside0.mk (Kd.R_mono (Kd.R_told (Kd.R_told (Kd.R_old (by (with_reducible repeat (first | apply Kd.R_alloc | apply Kd.R_drewN | apply Kd.R_drew)); exact HO_224001.out) hb) (Kd.R_base ho0)) (Kd.R_base ho1)) (fun _ h_ => h_.1))
                          have n4_ := Aside0.mk (Kd.R_mono (Kd.R_told (Kd.R_told (Kd.R_old (by (with_reducible repeat (first | apply Kd.R_alloc | apply Kd.R_drewN | apply Kd.R_drew)); exact HO_231000.out) hb) (Kd.R_base ho0)) (Kd.R_base ho1)) (fun _ h_ => h_.1))
                          have n5_ := Aside0.mk (Kd.R_mono (Kd.R_told (Kd.R_told (Kd.R_old (by (with_reducible repeat (first | apply Kd.R_alloc | apply Kd.R_drewN | apply Kd.R_drew)); exact HO_231001.out) hb) (Kd.R_base ho0)) (Kd.R_base ho1)) (fun _ h_ => h_.1))
                          have n6_ := Aside0.mk (Kd.R_lower (Kd.R_new' (Kd.R_new' (Kd.R_new' (Kd.R_new' (Kd.R_new' (Kd.R_new' ho0 (Kd.R_lt (by (with_reducible repeat (first | apply Kd.R_alloc | apply Kd.R_drewN | apply Kd.R_drew)); exact HO_6.out))) (Kd.R_lt (by (with_reducible repeat (first | apply Kd.R_alloc | apply Kd.R_drewN | apply Kd.R_drew)); exact HO_10.out))) (Kd.R_lt (by (with_reducible repeat (first | apply Kd.R_alloc | apply Kd.R_drewN | apply Kd.R_drew)); exact HO_224000.out))) (Kd.R_lt (by (with_reducible repeat (first | apply Kd.R_alloc | apply Kd.R_drewN | apply Kd.R_drew)); exact HO_224001.out))) (Kd.R_lt (by (with_reducible repeat (first | apply Kd.R_alloc | apply Kd.R_drewN | apply Kd.R_drew)); exact HO_231000.out))) (Kd.R_lt (by (with_reducible repeat (first | apply Kd.R_alloc | apply Kd.R_drewN | apply Kd.R_drew)); exact HO_231001.out))) (below_size (by repeat (first | (with_reducible first | exact HB.out | apply below_alloc | apply pw_below_drewN | apply below_drew1 | refine below_set ?_ GE197.out | refine below_set ?_ GE198.out | refine below_set ?_ GE223.out | refine below_set ?_ GE230.out) | exact HB.out))))
                          have n7_ := Aside0.mk (Kd.R_lower (Kd.R_new' (Kd.R_new' (Kd.R_new' (Kd.R_new' (Kd.R_new' (Kd.R_new' ho1 (Kd.R_lt (by (with_reducible repeat (first | apply Kd.R_alloc | apply Kd.R_drewN | apply Kd.R_drew)); exact HO_6.out))) (Kd.R_lt (by (with_reducible repeat (first | apply Kd.R_alloc | apply Kd.R_drewN | apply Kd.R_drew)); exact HO_10.out))) (Kd.R_lt (by (with_reducible repeat (first | apply Kd.R_alloc | apply Kd.R_drewN | apply Kd.R_drew)); exact HO_224000.out))) (Kd.R_lt (by (with_reducible repeat (first | apply Kd.R_alloc | apply Kd.R_drewN | apply Kd.R_drew)); exact HO_224001.out))) (Kd.R_lt (by (with_reducible repeat (first | apply Kd.R_alloc | apply Kd.R_drewN | apply Kd.R_drew)); exact HO_231000.out))) (Kd.R_lt (by (with_reducible repeat (first | apply Kd.R_alloc | apply Kd.R_drewN | apply Kd.R_drew)); exact HO_231001.out))) (below_size (by repeat (first | (with_reducible first | exact HB.out | apply below_alloc | apply pw_below_drewN | apply below_drew1 | refine below_set ?_ GE197.out | refine below_set ?_ GE198.out | refine below_set ?_ GE223.out | refine below_set ?_ GE230.out) | exact HB.out))))
                          have n8_ := Aside0.mk (blk_below (g := gb197) (o := .cells #[.slice A0_0 l0_0.length c0_0, .slice A0_1 l0_1.length c0_1] 37 (0, 0)) (by (with_reducible repeat (first | refine blk_drewN ?_ _ | refine blk_drew ?_ | refine blk_alloc ?_ _)); exact BK197.out) hb)
                          have n9_ := Aside0.mk (blk_below (g := gb198) (o := .cells #[.slice A1_0 l1_0.length c1_0, .slice A1_1 l1_1.length c1_1] 37 (0, 0)) (by (with_reducible repeat (first | refine blk_drewN ?_ _ | refine blk_drew ?_ | refine blk_alloc ?_ _)); exact BK198.out) hb)
                          have n10_ := Aside0.mk (blk_below (g := gb223) (o := .cells #[.slice Ao44 t251.length co44, .slice Ao48 t252.length co48] 26 (0, 0)) (by (with_reducible repeat (first | refine blk_drewN ?_ _ | refine blk_drew ?_ | refine blk_alloc ?_ _)); exact BK223.out) hb)
                          have n11_ := Aside0.mk (blk_below (g := gb230) (o := .cells #[.slice Ao52 t254.length co52, .slice Ao57 t255.length co57] 26 (0, 0)) (by (with_reducible repeat (first | refine blk_drewN ?_ _ | refine blk_drew ?_ | refine blk_alloc ?_ _)); exact BK230.out) hb)
                          have n12_ := Aside0.mk (below_step (by repeat (first | (with_reducible first | exact HB.out | apply below_alloc | apply pw_below_drewN | apply below_drew1 | refine below_set ?_ GE197.out | refine below_set ?_ GE198.out | refine below_set ?_ GE223.out | refine below_set ?_ GE230.out) | exact HB.out)) hb)
                          clear HO_6
                          clear HO_10
                          clear HO_224000
                          clear HO_224001
                          clear HO_231000
                          clear HO_231001
                          clear BK197
                          clear BK198
                          clear BK223
                          clear BK230
                          clear HB
                          have HO_6 := n0_
                          have HO_10 := n1_
                          have HO_224000 := n2_
                          have HO_224001 := n3_
                          have HO_231000 := n4_
                          have HO_231001 := n5_
                          have HO262 := n6_
                          have HO265 := n7_
                          have BK197 := n8_
                          have BK198 := n9_
                          have BK223 := n10_
                          have BK230 := n11_
                          have HB := n12_
                          clear n0_ n1_ n2_ n3_ n4_ n5_ n6_ n7_ n8_ n9_ n10_ n11_ n12_
                          (try clear hb)
                          (try clear hb2)
                          (try clear hk)
                          (try clear hi)
                          (try clear ho0)
                          (try clear ho1)
                          refine hK.out _ _ ⟨(blk_cell BK197.out 0).trans rfl, (blk_cell BK197.out 1).trans rfl, (blk_cell BK198.out 0).trans rfl, (blk_cell BK198.out 1).trans rfl⟩ (fun hHeld => ?_)
                          clear hK K
                          refine norm_ (a' := ?_) ?_ ?_
                          rotate_left
                          · show Act.put _ (some 96) _ = _
                            simp only [Act.put, List.setIfInBounds_toArray, List.set_cons_zero, List.set_cons_succ, i64_w, i32_w]
                            rfl
                          refine one_ (i := 3) (N := some 98) #[true, true, true, true, false, false, false, false, false, false] rfl rfl (one_of HT_.out (by kernel_rfl)) (by decide) (fun K hK => ?_)
                          refine goes_ Try.func25 (by kernel_rfl) rfl #[.agg #[.slice A1_0 l1_0.length c1_0, .slice A1_1 l1_1.length c1_1]] (by rfl) rfl rfl (by (try simp only [List.map_toArray, List.map_cons, List.map_nil]); first | done | rfl | (simp only [List.length_drop, List.length_take]; rfl)) ?_
                          with_reducible refine (laws_toArray.calls kj72 _ _ l1_0 _ _ l1_1 t266 t269 _ ?side1 ?side2 ?side3 ?side4 A104.out).mono ?_
                          (case side1 => repeat (first | exact (Kd.C_below HR1_0.out HB.out) | (with_reducible refine Kd.C_alloc ?_ _) | (with_reducible refine Kd.C_drewN ?_ _) | (with_reducible refine Kd.C_drew ?_)))
                          (case side2 => exact HC1_0.out)
                          (case side3 => repeat (first | exact (Kd.C_below HR1_1.out HB.out) | (with_reducible refine Kd.C_alloc ?_ _) | (with_reducible refine Kd.C_drewN ?_ _) | (with_reducible refine Kd.C_drew ?_)))
                          (case side4 => exact HC1_1.out)
                          rintro e w111 ⟨v267, v270, rfl, ho0, ho1, hb⟩
                          refine ⟨_, rfl, ?_⟩
                          have n0_ := Aside0.mk (Kd.R_mono (Kd.R_told (Kd.R_told (Kd.R_old (by (with_reducible repeat (first | apply Kd.R_alloc | apply Kd.R_drewN | apply Kd.R_drew)); exact HO_6.out) hb) (Kd.R_base ho0)) (Kd.R_base ho1)) (fun _ h_ => h_.1))
                          have n1_ := Aside0.mk (Kd.R_mono (Kd.R_told (Kd.R_told (Kd.R_old (by (with_reducible repeat (first | apply Kd.R_alloc | apply Kd.R_drewN | apply Kd.R_drew)); exact HO_10.out) hb) (Kd.R_base ho0)) (Kd.R_base ho1)) (fun _ h_ => h_.1))
                          have n2_ := Aside0.mk (Kd.R_mono (Kd.R_told (Kd.R_told (Kd.R_old (by (with_reducible repeat (first | apply Kd.R_alloc | apply Kd.R_drewN | apply Kd.R_drew)); exact HO_224000.out) hb) (Kd.R_base ho0)) (Kd.R_base ho1)) (fun _ h_ => h_.1))
                          have n3_ := Aside0.mk (Kd.R_mono (Kd.R_told (Kd.R_told (Kd.R_old (by (with_reducible repeat (first | apply Kd.R_alloc | apply Kd.R_drewN | apply Kd.R_drew)); exact HO_224001.out) hb) (Kd.R_base ho0)) (Kd.R_base ho1)) (fun _ h_ => h_.1))
                          have n4_ := Aside0.mk (Kd.R_mono (Kd.R_told (Kd.R_told (Kd.R_old (by (with_reducible repeat (first | apply Kd.R_alloc | apply Kd.R_drewN | apply Kd.R_drew)); exact HO_231000.out) hb) (Kd.R_base ho0)) (Kd.R_base ho1)) (fun _ h_ => h_.1))
                          have n5_ := Aside0.mk (Kd.R_mono (Kd.R_told (Kd.R_told (Kd.R_old (by (with_reducible repeat (first | apply Kd.R_alloc | apply Kd.R_drewN | apply Kd.R_drew)); exact HO_231001.out) hb) (Kd.R_base ho0)) (Kd.R_base ho1)) (fun _ h_ => h_.1))
                          have n6_ := Aside0.mk (Kd.R_mono (Kd.R_told (Kd.R_told (Kd.R_old (by (with_reducible repeat (first | apply Kd.R_alloc | apply Kd.R_drewN | apply Kd.R_drew)); exact HO262.out) hb) (Kd.R_base ho0)) (Kd.R_base ho1)) (fun _ h_ => h_.1))
                          have n7_ := Aside0.mk (Kd.R_mono (Kd.R_told (Kd.R_told (Kd.R_old (by (with_reducible repeat (first | apply Kd.R_alloc | apply Kd.R_drewN | apply Kd.R_drew)); exact HO265.out) hb) (Kd.R_base ho0)) (Kd.R_base ho1)) (fun _ h_ => h_.1))
                          have n8_ := Aside0.mk (Kd.R_lower (Kd.R_new' (Kd.R_new' (Kd.R_new' (Kd.R_new' (Kd.R_new' (Kd.R_new' (Kd.R_new' (Kd.R_new' ho0 (Kd.R_lt (by (with_reducible repeat (first | apply Kd.R_alloc | apply Kd.R_drewN | apply Kd.R_drew)); exact HO_6.out))) (Kd.R_lt (by (with_reducible repeat (first | apply Kd.R_alloc | apply Kd.R_drewN | apply Kd.R_drew)); exact HO_10.out))) (Kd.R_lt (by (with_reducible repeat (first | apply Kd.R_alloc | apply Kd.R_drewN | apply Kd.R_drew)); exact HO_224000.out))) (Kd.R_lt (by (with_reducible repeat (first | apply Kd.R_alloc | apply Kd.R_drewN | apply Kd.R_drew)); exact HO_224001.out))) (Kd.R_lt (by (with_reducible repeat (first | apply Kd.R_alloc | apply Kd.R_drewN | apply Kd.R_drew)); exact HO_231000.out))) (Kd.R_lt (by (with_reducible repeat (first | apply Kd.R_alloc | apply Kd.R_drewN | apply Kd.R_drew)); exact HO_231001.out))) (Kd.R_lt (by (with_reducible repeat (first | apply Kd.R_alloc | apply Kd.R_drewN | apply Kd.R_drew)); exact HO262.out))) (Kd.R_lt (by (with_reducible repeat (first | apply Kd.R_alloc | apply Kd.R_drewN | apply Kd.R_drew)); exact HO265.out))) (below_size (by repeat (first | (with_reducible first | exact HB.out | apply below_alloc | apply pw_below_drewN | apply below_drew1 | refine below_set ?_ GE197.out | refine below_set ?_ GE198.out | refine below_set ?_ GE223.out | refine below_set ?_ GE230.out) | exact HB.out))))
                          have n9_ := Aside0.mk (Kd.R_lower (Kd.R_new' (Kd.R_new' (Kd.R_new' (Kd.R_new' (Kd.R_new' (Kd.R_new' (Kd.R_new' (Kd.R_new' ho1 (Kd.R_lt (by (with_reducible repeat (first | apply Kd.R_alloc | apply Kd.R_drewN | apply Kd.R_drew)); exact HO_6.out))) (Kd.R_lt (by (with_reducible repeat (first | apply Kd.R_alloc | apply Kd.R_drewN | apply Kd.R_drew)); exact HO_10.out))) (Kd.R_lt (by (with_reducible repeat (first | apply Kd.R_alloc | apply Kd.R_drewN | apply Kd.R_drew)); exact HO_224000.out))) (Kd.R_lt (by (with_reducible repeat (first | apply Kd.R_alloc | apply Kd.R_drewN | apply Kd.R_drew)); exact HO_224001.out))) (Kd.R_lt (by (with_reducible repeat (first | apply Kd.R_alloc | apply Kd.R_drewN | apply Kd.R_drew)); exact HO_231000.out))) (Kd.R_lt (by (with_reducible repeat (first | apply Kd.R_alloc | apply Kd.R_drewN | apply Kd.R_drew)); exact HO_231001.out))) (Kd.R_lt (by (with_reducible repeat (first | apply Kd.R_alloc | apply Kd.R_drewN | apply Kd.R_drew)); exact HO262.out))) (Kd.R_lt (by (with_reducible repeat (first | apply Kd.R_alloc | apply Kd.R_drewN | apply Kd.R_drew)); exact HO265.out))) (below_size (by repeat (first | (with_reducible first | exact HB.out | apply below_alloc | apply pw_below_drewN | apply below_drew1 | refine below_set ?_ GE197.out | refine below_set ?_ GE198.out | refine below_set ?_ GE223.out | refine below_set ?_ GE230.out) | exact HB.out))))
                          have n10_ := Aside0.mk (blk_below (g := gb197) (o := .cells #[.slice A0_0 l0_0.length c0_0, .slice A0_1 l0_1.length c0_1] 37 (0, 0)) (by (with_reducible repeat (first | refine blk_drewN ?_ _ | refine blk_drew ?_ | refine blk_alloc ?_ _)); exact BK197.out) hb)
                          have n11_ := Aside0.mk (blk_below (g := gb198) (o := .cells #[.slice A1_0 l1_0.length c1_0, .slice A1_1 l1_1.length c1_1] 37 (0, 0)) (by (with_reducible repeat (first | refine blk_drewN ?_ _ | refine blk_drew ?_ | refine blk_alloc ?_ _)); exact BK198.out) hb)
                          have n12_ := Aside0.mk (blk_below (g := gb223) (o := .cells #[.slice Ao44 t251.length co44, .slice Ao48 t252.length co48] 26 (0, 0)) (by (with_reducible repeat (first | refine blk_drewN ?_ _ | refine blk_drew ?_ | refine blk_alloc ?_ _)); exact BK223.out) hb)
                          have n13_ := Aside0.mk (blk_below (g := gb230) (o := .cells #[.slice Ao52 t254.length co52, .slice Ao57 t255.length co57] 26 (0, 0)) (by (with_reducible repeat (first | refine blk_drewN ?_ _ | refine blk_drew ?_ | refine blk_alloc ?_ _)); exact BK230.out) hb)
                          have n14_ := Aside0.mk (below_step (by repeat (first | (with_reducible first | exact HB.out | apply below_alloc | apply pw_below_drewN | apply below_drew1 | refine below_set ?_ GE197.out | refine below_set ?_ GE198.out | refine below_set ?_ GE223.out | refine below_set ?_ GE230.out) | exact HB.out)) hb)
                          clear HO_6
                          clear HO_10
                          clear HO_224000
                          clear HO_224001
                          clear HO_231000
                          clear HO_231001
                          clear HO262
                          clear HO265
                          clear BK197
                          clear BK198
                          clear BK223
                          clear BK230
                          clear HB
                          have HO_6 := n0_
                          have HO_10 := n1_
                          have HO_224000 := n2_
                          have HO_224001 := n3_
                          have HO_231000 := n4_
                          have HO_231001 := n5_
                          have HO262 := n6_
                          have HO265 := n7_
                          have HO268 := n8_
                          have HO271 := n9_
                          have BK197 := n10_
                          have BK198 := n11_
                          have BK223 := n12_
                          have BK230 := n13_
                          have HB := n14_
                          clear n0_ n1_ n2_ n3_ n4_ n5_ n6_ n7_ n8_ n9_ n10_ n11_ n12_ n13_ n14_
                          (try clear hb)
                          (try clear hb2)
                          (try clear hk)
                          (try clear hi)
                          (try clear ho0)
                          (try clear ho1)
                          obtain ⟨Ao112, co112, eo112⟩ := Kd.R_slice HO262.out
                          (first | subst eo112 | (injection eo112 with f1_ f2_ f3_; have f4_ := f1_.symm; have f5_ := f3_.symm; clear f1_ f2_ f3_; subst f4_; subst f5_))
                          obtain ⟨Ao113, co113, eo113⟩ := Kd.R_slice HO265.out
                          (first | subst eo113 | (injection eo113 with f1_ f2_ f3_; have f4_ := f1_.symm; have f5_ := f3_.symm; clear f1_ f2_ f3_; subst f4_; subst f5_))
                          obtain ⟨Ao114, co114, eo114⟩ := Kd.R_slice HO268.out
                          (first | subst eo114 | (injection eo114 with f1_ f2_ f3_; have f4_ := f1_.symm; have f5_ := f3_.symm; clear f1_ f2_ f3_; subst f4_; subst f5_))
                          obtain ⟨Ao115, co115, eo115⟩ := Kd.R_slice HO271.out
                          (first | subst eo115 | (injection eo115 with f1_ f2_ f3_; have f4_ := f1_.symm; have f5_ := f3_.symm; clear f1_ f2_ f3_; subst f4_; subst f5_))
                          refine hK.out _ _ ⟨(blk_cell BK197.out 0).trans rfl, (blk_cell BK197.out 1).trans rfl, (blk_cell BK198.out 0).trans rfl, (blk_cell BK198.out 1).trans rfl⟩ (fun hHeld => ?_)
                          clear hK K
                          refine norm_ (a' := ?_) ?_ ?_
                          rotate_left
                          · show Act.put _ (some 98) _ = _
                            simp only [Act.put, List.setIfInBounds_toArray, List.set_cons_zero, List.set_cons_succ, i64_w, i32_w]
                            rfl
                          refine one_ (i := 4) (N := some 99) #[true, true, true, true, true, false, false, false, false, false] rfl rfl (one_of HT_.out (by kernel_rfl)) (by decide) (fun K hK => ?_)
                          refine goes_ Try.func19 (by kernel_rfl) rfl #[.agg #[.slice Ao112 t260.length co112, .slice Ao113 t263.length co113], .agg #[.slice Ao114 t266.length co114, .slice Ao115 t269.length co115]] (by rfl) rfl rfl (by (try simp only [List.map_toArray, List.map_cons, List.map_nil]); first | done | rfl | (simp only [List.length_drop, List.length_take]; rfl)) ?_
                          with_reducible refine (impl_Fit.calls kj72 _ _ t260 _ _ t263 _ _ t266 _ _ t269 t272 t275 _ ?side1 ?side2 ?side3 ?side4 ?side5 ?side6 ?side7 ?side8 A105.out).mono ?_
                          (case side1 => repeat (first | exact (Kd.R_reads' HO262.out).2.2 | (with_reducible refine Kd.C_alloc ?_ _) | (with_reducible refine Kd.C_drewN ?_ _) | (with_reducible refine Kd.C_drew ?_)))
                          (case side2 => exact (Kd.R_reads' HO262.out).2.1)
                          (case side3 => repeat (first | exact (Kd.R_reads' HO265.out).2.2 | (with_reducible refine Kd.C_alloc ?_ _) | (with_reducible refine Kd.C_drewN ?_ _) | (with_reducible refine Kd.C_drew ?_)))
                          (case side4 => exact (Kd.R_reads' HO265.out).2.1)
                          (case side5 => repeat (first | exact (Kd.R_reads' HO268.out).2.2 | (with_reducible refine Kd.C_alloc ?_ _) | (with_reducible refine Kd.C_drewN ?_ _) | (with_reducible refine Kd.C_drew ?_)))
                          (case side6 => exact (Kd.R_reads' HO268.out).2.1)
                          (case side7 => repeat (first | exact (Kd.R_reads' HO271.out).2.2 | (with_reducible refine Kd.C_alloc ?_ _) | (with_reducible refine Kd.C_drewN ?_ _) | (with_reducible refine Kd.C_drew ?_)))
                          (case side8 => exact (Kd.R_reads' HO271.out).2.1)
                          rintro e w116 ⟨v273, rfl, ho0, hb⟩
                          refine ⟨_, rfl, ?_⟩
                          have n0_ := Aside0.mk (Kd.R_elder' (by (with_reducible repeat (first | apply Kd.R_alloc | apply Kd.R_drewN | apply Kd.R_drew)); exact HO_6.out) (Kd.R_base ho0) hb)
                          have n1_ := Aside0.mk (Kd.R_elder' (by (with_reducible repeat (first | apply Kd.R_alloc | apply Kd.R_drewN | apply Kd.R_drew)); exact HO_10.out) (Kd.R_base ho0) hb)
                          have n2_ := Aside0.mk (Kd.R_elder' (by (with_reducible repeat (first | apply Kd.R_alloc | apply Kd.R_drewN | apply Kd.R_drew)); exact HO_224000.out) (Kd.R_base ho0) hb)
                          have n3_ := Aside0.mk (Kd.R_elder' (by (with_reducible repeat (first | apply Kd.R_alloc | apply Kd.R_drewN | apply Kd.R_drew)); exact HO_224001.out) (Kd.R_base ho0) hb)
                          have n4_ := Aside0.mk (Kd.R_elder' (by (with_reducible repeat (first | apply Kd.R_alloc | apply Kd.R_drewN | apply Kd.R_drew)); exact HO_231000.out) (Kd.R_base ho0) hb)
                          have n5_ := Aside0.mk (Kd.R_elder' (by (with_reducible repeat (first | apply Kd.R_alloc | apply Kd.R_drewN | apply Kd.R_drew)); exact HO_231001.out) (Kd.R_base ho0) hb)
                          have n6_ := Aside0.mk (Kd.R_elder' (by (with_reducible repeat (first | apply Kd.R_alloc | apply Kd.R_drewN | apply Kd.R_drew)); exact HO262.out) (Kd.R_base ho0) hb)
                          have n7_ := Aside0.mk (Kd.R_elder' (by (with_reducible repeat (first | apply Kd.R_alloc | apply Kd.R_drewN | apply Kd.R_drew)); exact HO265.out) (Kd.R_base ho0) hb)
                          have n8_ := Aside0.mk (Kd.R_elder' (by (with_reducible repeat (first | apply Kd.R_alloc | apply Kd.R_drewN | apply Kd.R_drew)); exact HO268.out) (Kd.R_base ho0) hb)
                          have n9_ := Aside0.mk (Kd.R_elder' (by (with_reducible repeat (first | apply Kd.R_alloc | apply Kd.R_drewN | apply Kd.R_drew)); exact HO271.out) (Kd.R_base ho0) hb)
                          have n10_ := Aside0.mk (Kd.R_lower (Kd.R_new' (Kd.R_new' (Kd.R_new' (Kd.R_new' (Kd.R_new' (Kd.R_new' (Kd.R_new' (Kd.R_new' (Kd.R_new' (Kd.R_new' ho0 (Kd.R_lt (by (with_reducible repeat (first | apply Kd.R_alloc | apply Kd.R_drewN | apply Kd.R_drew)); exact HO_6.out))) (Kd.R_lt (by (with_reducible repeat (first | apply Kd.R_alloc | apply Kd.R_drewN | apply Kd.R_drew)); exact HO_10.out))) (Kd.R_lt (by (with_reducible repeat (first | apply Kd.R_alloc | apply Kd.R_drewN | apply Kd.R_drew)); exact HO_224000.out))) (Kd.R_lt (by (with_reducible repeat (first | apply Kd.R_alloc | apply Kd.R_drewN | apply Kd.R_drew)); exact HO_224001.out))) (Kd.R_lt (by (with_reducible repeat (first | apply Kd.R_alloc | apply Kd.R_drewN | apply Kd.R_drew)); exact HO_231000.out))) (Kd.R_lt (by (with_reducible repeat (first | apply Kd.R_alloc | apply Kd.R_drewN | apply Kd.R_drew)); exact HO_231001.out))) (Kd.R_lt (by (with_reducible repeat (first | apply Kd.R_alloc | apply Kd.R_drewN | apply Kd.R_drew)); exact HO262.out))) (Kd.R_lt (by (with_reducible repeat (first | apply Kd.R_alloc | apply Kd.R_drewN | apply Kd.R_drew)); exact HO265.out))) (Kd.R_lt (by (with_reducible repeat (first | apply Kd.R_alloc | apply Kd.R_drewN | apply Kd.R_drew)); exact HO268.out))) (Kd.R_lt (by (with_reducible repeat (first | apply Kd.R_alloc | apply Kd.R_drewN | apply Kd.R_drew)); exact HO271.out))) (below_size (by repeat (first | (with_reducible first | exact HB.out | apply below_alloc | apply pw_below_drewN | apply below_drew1 | refine below_set ?_ GE197.out | refine below_set ?_ GE198.out | refine below_set ?_ GE223.out | refine below_set ?_ GE230.out) | exact HB.out))))
                          have n11_ := Aside0.mk (blk_below (g := gb197) (o := .cells #[.slice A0_0 l0_0.length c0_0, .slice A0_1 l0_1.length c0_1] 37 (0, 0)) (by (with_reducible repeat (first | refine blk_drewN ?_ _ | refine blk_drew ?_ | refine blk_alloc ?_ _)); exact BK197.out) hb)
                          have n12_ := Aside0.mk (blk_below (g := gb198) (o := .cells #[.slice A1_0 l1_0.length c1_0, .slice A1_1 l1_1.length c1_1] 37 (0, 0)) (by (with_reducible repeat (first | refine blk_drewN ?_ _ | refine blk_drew ?_ | refine blk_alloc ?_ _)); exact BK198.out) hb)
                          have n13_ := Aside0.mk (blk_below (g := gb223) (o := .cells #[.slice Ao44 t251.length co44, .slice Ao48 t252.length co48] 26 (0, 0)) (by (with_reducible repeat (first | refine blk_drewN ?_ _ | refine blk_drew ?_ | refine blk_alloc ?_ _)); exact BK223.out) hb)
                          have n14_ := Aside0.mk (blk_below (g := gb230) (o := .cells #[.slice Ao52 t254.length co52, .slice Ao57 t255.length co57] 26 (0, 0)) (by (with_reducible repeat (first | refine blk_drewN ?_ _ | refine blk_drew ?_ | refine blk_alloc ?_ _)); exact BK230.out) hb)
                          have n15_ := Aside0.mk (below_step (by repeat (first | (with_reducible first | exact HB.out | apply below_alloc | apply pw_below_drewN | apply below_drew1 | refine below_set ?_ GE197.out | refine below_set ?_ GE198.out | refine below_set ?_ GE223.out | refine below_set ?_ GE230.out) | exact HB.out)) hb)
                          clear HO_6
                          clear HO_10
                          clear HO_224000
                          clear HO_224001
                          clear HO_231000
                          clear HO_231001
                          clear HO262
                          clear HO265
                          clear HO268
                          clear HO271
                          clear BK197
                          clear BK198
                          clear BK223
                          clear BK230
                          clear HB
                          have HO_6 := n0_
                          have HO_10 := n1_
                          have HO_224000 := n2_
                          have HO_224001 := n3_
                          have HO_231000 := n4_
                          have HO_231001 := n5_
                          have HO262 := n6_
                          have HO265 := n7_
                          have HO268 := n8_
                          have HO271 := n9_
                          have HO274 := n10_
                          have BK197 := n11_
                          have BK198 := n12_
                          have BK223 := n13_
                          have BK230 := n14_
                          have HB := n15_
                          clear n0_ n1_ n2_ n3_ n4_ n5_ n6_ n7_ n8_ n9_ n10_ n11_ n12_ n13_ n14_ n15_
                          (try clear hb)
                          (try clear hb2)
                          (try clear hk)
                          (try clear hi)
                          (try clear ho0)
                          refine hK.out _ _ ⟨(blk_cell BK197.out 0).trans rfl, (blk_cell BK197.out 1).trans rfl, (blk_cell BK198.out 0).trans rfl, (blk_cell BK198.out 1).trans rfl⟩ (fun hHeld => ?_)
                          clear hK K
                          refine norm_ (a' := ?_) ?_ ?_
                          rotate_left
                          · show Act.put _ (some 99) _ = _
                            simp only [Act.put, List.setIfInBounds_toArray, List.set_cons_zero, List.set_cons_succ, i64_w, i32_w]
                            rfl
                          refine pure_ (i := 5) (N := some 94) (v := ?_) (a' := ?_) #[true, true, true, true, true, true, false, false, false, false] rfl rfl (any_of HT_.out (by kernel_rfl)) (fun _ _ _ h => h) (Or.inl ⟨by rfl, ?_⟩) ?_ ?_
                          rotate_left
                          · intro w'
                            go_simp
                            with_reducible rfl
                          rotate_left
                          · simp only [Act.put, List.setIfInBounds_toArray, List.set_cons_zero, List.set_cons_succ, i64_w, i32_w]
                            rfl
                          refine pure_ (i := 6) (N := some 100) (v := ?_) (a' := ?_) #[true, true, true, true, true, true, true, false, false, false] rfl rfl (any_of HT_.out (by kernel_rfl)) (fun _ _ _ h => h) (Or.inl ⟨by rfl, ?_⟩) ?_ ?_
                          rotate_left
                          · intro w'
                            go_simp
                            with_reducible rfl
                          rotate_left
                          · simp only [Act.put, List.setIfInBounds_toArray, List.set_cons_zero, List.set_cons_succ, i64_w, i32_w]
                            rfl
                          refine pure_ (i := 7) (N := some 101) (v := ?_) (a' := ?_) #[true, true, true, true, true, true, true, true, false, false] rfl rfl (any_of HT_.out (by kernel_rfl)) (fun _ _ _ h => h) (Or.inl ⟨by rfl, ?_⟩) ?_ ?_
                          rotate_left
                          · intro w'
                            go_simp
                            with_reducible rfl
                          rotate_left
                          · simp only [Act.put, List.setIfInBounds_toArray, List.set_cons_zero, List.set_cons_succ, i64_w, i32_w]
                            rfl
                          refine pure_ (i := 8) (N := some 15) (v := ?_) (a' := ?_) #[true, true, true, true, true, true, true, true, true, false] rfl rfl (any_of HT_.out (by kernel_rfl)) (fun _ _ _ h => h) (Or.inl ⟨by rfl, ?_⟩) ?_ ?_
                          rotate_left
                          · intro w'
                            go_simp
                            with_reducible rfl
                          rotate_left
                          · simp only [Act.put, List.setIfInBounds_toArray, List.set_cons_zero, List.set_cons_succ, i64_w, i32_w]
                            rfl
                          refine pure_ (i := 9) (N := some 16) (v := ?_) (a' := ?_) #[true, true, true, true, true, true, true, true, true, true] rfl rfl (any_of HT_.out (by kernel_rfl)) (fun _ _ _ h => h) (Or.inl ⟨by rfl, ?_⟩) ?_ ?_
                          rotate_left
                          · intro w'
                            go_simp
                            with_reducible rfl
                          rotate_left
                          · simp only [Act.put, List.setIfInBounds_toArray, List.set_cons_zero, List.set_cons_succ, i64_w, i32_w]
                            rfl
                          refine done_ (done_of HT_.out (by kernel_rfl)) ?_
                          go_upto_region 32 with (fail)
                          go_cut [110] (fun v110 wc => ∃ (kq : Nat) (x110_105 : Bool), v110 = .bool x110_105 ∧ Aside0 (laws_FnExactFit.j2 kq t258 t257 x110_105 = some r) ∧ Aside0 (kq ≤ kj72) ∧ Aside0 (Kd.R (Kd.int .i64) 3 wc w.heap.size (fun k_ => some k_ ≠ ((.slice Ao44 t251.length co44) : Value).ownBlock ∧ some k_ ≠ ((.slice Ao48 t252.length co48) : Value).ownBlock ∧ some k_ ≠ ((.slice Ao52 t254.length co52) : Value).ownBlock ∧ some k_ ≠ ((.slice Ao57 t255.length co57) : Value).ownBlock) (.slice Ao107 t231.length co107) t258) ∧ Aside0 (Kd.R (Kd.int .i64) 3 wc w.heap.size (fun k_ => some k_ ≠ ((.slice Ao107 t231.length co107) : Value).ownBlock ∧ some k_ ≠ ((.slice Ao48 t252.length co48) : Value).ownBlock ∧ some k_ ≠ ((.slice Ao52 t254.length co52) : Value).ownBlock ∧ some k_ ≠ ((.slice Ao57 t255.length co57) : Value).ownBlock) (.slice Ao44 t251.length co44) t251) ∧ Aside0 (Kd.R (Kd.int .i64) 3 wc w.heap.size (fun k_ => some k_ ≠ ((.slice Ao107 t231.length co107) : Value).ownBlock ∧ some k_ ≠ ((.slice Ao44 t251.length co44) : Value).ownBlock ∧ some k_ ≠ ((.slice Ao52 t254.length co52) : Value).ownBlock ∧ some k_ ≠ ((.slice Ao57 t255.length co57) : Value).ownBlock) (.slice Ao48 t252.length co48) t252) ∧ Aside0 (Kd.R (Kd.int .i64) 3 wc w.heap.size (fun k_ => some k_ ≠ ((.slice Ao107 t231.length co107) : Value).ownBlock ∧ some k_ ≠ ((.slice Ao44 t251.length co44) : Value).ownBlock ∧ some k_ ≠ ((.slice Ao48 t252.length co48) : Value).ownBlock ∧ some k_ ≠ ((.slice Ao57 t255.length co57) : Value).ownBlock) (.slice Ao52 t254.length co52) t254) ∧ Aside0 (Kd.R (Kd.int .i64) 3 wc w.heap.size (fun k_ => some k_ ≠ ((.slice Ao107 t231.length co107) : Value).ownBlock ∧ some k_ ≠ ((.slice Ao44 t251.length co44) : Value).ownBlock ∧ some k_ ≠ ((.slice Ao48 t252.length co48) : Value).ownBlock ∧ some k_ ≠ ((.slice Ao52 t254.length co52) : Value).ownBlock) (.slice Ao57 t255.length co57) t255) ∧ Aside0 (wc.heap[gb197]? = some (.cells #[(.slice A0_0 l0_0.length c0_0), (.slice A0_1 l0_1.length c0_1)] 37 (0, 0))) ∧ Aside0 (wc.heap[gb198]? = some (.cells #[(.slice A1_0 l1_0.length c1_0), (.slice A1_1 l1_1.length c1_1)] 37 (0, 0))) ∧ Aside0 (wc.heap[gb223]? = some (.cells #[(.slice Ao44 t251.length co44), (.slice Ao48 t252.length co48)] 26 (0, 0))) ∧ Aside0 (wc.heap[gb230]? = some (.cells #[(.slice Ao52 t254.length co52), (.slice Ao57 t255.length co57)] 26 (0, 0))) ∧ Aside0 (Below w.heap.size w wc))
                          case first =>
                            have H := HC106.out
                            clear HC106
                            replace H := Option.bind_eq_some_iff.mp H
                            obtain ⟨t276, A1170, H⟩ := H
                            replace H : (if t276 = true then (laws_FnExactFit.j2 kj72 t258 t257 (t275 != t216)) else (laws_FnExactFit.j2 kj72 t258 t257 true)) = some r := H
                            have A117 := Aside0.mk A1170
                            clear A1170
                            by_cases c118 : t276 = true
                            · subst c118
                              have H1 : (laws_FnExactFit.j2 kj72 t258 t257 (t275 != t216)) = some r := by rw [if_pos rfl] at H; exact H
                              clear H
                              have H := H1
                              clear H1
                              have H' := Aside0.mk H
                              clear H
                              obtain ⟨Ao119, co119, eo119⟩ := Kd.R_slice HO274.out
                              subst eo119
                              obtain ⟨Ao120, co120, eo120⟩ := Kd.R_slice HO_6.out
                              subst eo120
                              go_wp2_with (first | ((with_reducible refine gate_callee (f := 29) rfl ?_); refine goesL_ (some 104) rfl rfl Try.func29 (by kernel_rfl) rfl #[.slice Ao119 t272.length co119, .slice Ao120 t213.length co120] rfl (by (try simp only [List.map_toArray, List.map_cons, List.map_nil]); first | done | rfl | (simp only [List.length_drop, List.length_take]; rfl)) ?_; (with_reducible refine (laws_eqIntS.calls kj72 _ _ t272 _ _ t213 true _ ?side1 ?side2 ?side3 ?side4 A117.out).mono ?_); (case side1 => repeat (first | exact (Kd.R_reads' HO274.out).2.2 | (with_reducible refine Kd.C_alloc ?_ _) | (with_reducible refine Kd.C_drewN ?_ _) | (with_reducible refine Kd.C_drew ?_))); (case side2 => exact (Kd.R_reads' HO274.out).2.1); (case side3 => repeat (first | exact (Kd.R_reads' HO_6.out).2.2 | (with_reducible refine Kd.C_alloc ?_ _) | (with_reducible refine Kd.C_drewN ?_ _) | (with_reducible refine Kd.C_drew ?_))); (case side4 => exact (Kd.R_reads' HO_6.out).2.1); rintro e w' ⟨rfl, ⟨nd, rfl⟩⟩; refine ⟨_, rfl, ?_⟩))
                              go_meet
                              case rel => exact ⟨_, ((t275 != t216)), (by first | rfl | (simp; done) | (simp [*]; done)), H', ⟨by have := HJ24.out; have := HJ72.out; first | omega | exact Nat.le_refl _⟩, ⟨by (try simp only [hl224000_72]); (try simp only [hl224001_72]); (try simp only [hl231000_72]); (try simp only [hl231001_72]); (with_reducible repeat (first | apply Kd.R_alloc | apply Kd.R_drewN | apply Kd.R_drew)); exact Kd.R_mono HO_10.out (fun _ hk => ⟨hk.1.1.1.1.1.1, ⟨hk.1.1.1.1.1.2.1, ⟨hk.1.1.1.1.1.2.2.1, hk.1.1.1.1.1.2.2.2.1⟩⟩⟩)⟩, ⟨by (try simp only [hl224000_72]); (try simp only [hl224001_72]); (try simp only [hl231000_72]); (try simp only [hl231001_72]); (with_reducible repeat (first | apply Kd.R_alloc | apply Kd.R_drewN | apply Kd.R_drew)); exact Kd.R_mono HO_224000.out (fun _ hk => by refine ⟨?_, ?_, ?_, ?_⟩ <;> with_reducible (first | exact hk.1.1.1.1.1.1.1.1 | exact hk.1.1.1.1.1.1.1.1.1 | exact hk.1.1.1.1.1.1.1.1.2 | exact hk.1.1.1.1.1.1.1.1.2.1 | exact hk.1.1.1.1.1.1.1.1.2.2 | exact hk.1.1.1.1.1.1.1.1.2.2.1 | exact hk.1.1.1.1.1.1.1.1.2.2.2 | exact hk.1.1.1.1.1.1.1.1.2.2.2.1 | exact hk.1.1.1.1.1.1.1.1.2.2.2.2 | exact hk.1.1.1.1.1.1.1.1.2.2.2.2.1 | exact hk.1.1.1.1.1.1.1.1.2.2.2.2.2 | exact hk.1.1.1.1.1.1.1.1.2.2.2.2.2.1 | exact hk.1.1.1.1.1.1.1 | exact hk.1.1.1.1.1.1.1.2 | exact hk.1.1.1.1.1.1.1.2.1 | exact hk.1.1.1.1.1.1.1.2.2 | exact hk.1.1.1.1.1.1.1.2.2.1 | exact hk.1.1.1.1.1.1.1.2.2.2 | exact hk.1.1.1.1.1.1.1.2.2.2.1 | exact hk.1.1.1.1.1.1.1.2.2.2.2 | exact hk.1.1.1.1.1.1.1.2.2.2.2.1 | exact hk.1.1.1.1.1.1.1.2.2.2.2.2 | exact hk.1.1.1.1.1.1.1.2.2.2.2.2.1 | exact hk.1.1.1.1.1.1 | exact hk.1.1.1.1.1.1.2 | exact hk.1.1.1.1.1.1.2.1 | exact hk.1.1.1.1.1.1.2.2 | exact hk.1.1.1.1.1.1.2.2.1 | exact hk.1.1.1.1.1.1.2.2.2 | exact hk.1.1.1.1.1.1.2.2.2.1 | exact hk.1.1.1.1.1.1.2.2.2.2 | exact hk.1.1.1.1.1.1.2.2.2.2.1 | exact hk.1.1.1.1.1.1.2.2.2.2.2 | exact hk.1.1.1.1.1.1.2.2.2.2.2.1 | exact hk.1.1.1.1.1 | exact hk.1.1.1.1.1.2 | exact hk.1.1.1.1.1.2.1 | exact hk.1.1.1.1.1.2.2 | exact hk.1.1.1.1.1.2.2.1 | exact hk.1.1.1.1.1.2.2.2 | exact hk.1.1.1.1.1.2.2.2.1 | exact hk.1.1.1.1.1.2.2.2.2 | exact hk.1.1.1.1.1.2.2.2.2.1 | exact hk.1.1.1.1.1.2.2.2.2.2 | exact hk.1.1.1.1.1.2.2.2.2.2.1 | exact hk.1.1.1.1 | exact hk.1.1.1.1.2 | exact hk.1.1.1.1.2.1 | exact hk.1.1.1.1.2.2 | exact hk.1.1.1.1.2.2.1 | exact hk.1.1.1.1.2.2.2 | exact hk.1.1.1.1.2.2.2.1 | exact hk.1.1.1.1.2.2.2.2 | exact hk.1.1.1.1.2.2.2.2.1 | exact hk.1.1.1.1.2.2.2.2.2 | exact hk.1.1.1.1.2.2.2.2.2.1 | exact hk.1.1.1 | exact hk.1.1.1.2 | exact hk.1.1.1.2.1 | exact hk.1.1.1.2.2 | exact hk.1.1.1.2.2.1 | exact hk.1.1.1.2.2.2 | exact hk.1.1.1.2.2.2.1 | exact hk.1.1.1.2.2.2.2 | exact hk.1.1.1.2.2.2.2.1 | exact hk.1.1.1.2.2.2.2.2 | exact hk.1.1.1.2.2.2.2.2.1 | exact hk.1.1 | exact hk.1.1.2 | exact hk.1.1.2.1 | exact hk.1.1.2.2 | exact hk.1.1.2.2.1 | exact hk.1.1.2.2.2 | exact hk.1.1.2.2.2.1 | exact hk.1.1.2.2.2.2 | exact hk.1.1.2.2.2.2.1 | exact hk.1.1.2.2.2.2.2 | exact hk.1.1.2.2.2.2.2.1 | exact hk.1 | exact hk.1.2 | exact hk.1.2.1 | exact hk.1.2.2 | exact hk.1.2.2.1 | exact hk.1.2.2.2 | exact hk.1.2.2.2.1 | exact hk.1.2.2.2.2 | exact hk.1.2.2.2.2.1 | exact hk.1.2.2.2.2.2 | exact hk.1.2.2.2.2.2.1 | exact hk | exact hk.2 | exact hk.2.1 | exact hk.2.2 | exact hk.2.2.1 | exact hk.2.2.2 | exact hk.2.2.2.1 | exact hk.2.2.2.2 | exact hk.2.2.2.2.1 | exact hk.2.2.2.2.2 | exact hk.2.2.2.2.2.1))⟩, ⟨by (try simp only [hl224000_72]); (try simp only [hl224001_72]); (try simp only [hl231000_72]); (try simp only [hl231001_72]); (with_reducible repeat (first | apply Kd.R_alloc | apply Kd.R_drewN | apply Kd.R_drew)); exact Kd.R_mono HO_224001.out (fun _ hk => by refine ⟨?_, ?_, ?_, ?_⟩ <;> with_reducible (first | exact hk.1.1.1.1.1.1.1.1 | exact hk.1.1.1.1.1.1.1.1.1 | exact hk.1.1.1.1.1.1.1.1.2 | exact hk.1.1.1.1.1.1.1.1.2.1 | exact hk.1.1.1.1.1.1.1.1.2.2 | exact hk.1.1.1.1.1.1.1.1.2.2.1 | exact hk.1.1.1.1.1.1.1.1.2.2.2 | exact hk.1.1.1.1.1.1.1.1.2.2.2.1 | exact hk.1.1.1.1.1.1.1.1.2.2.2.2 | exact hk.1.1.1.1.1.1.1.1.2.2.2.2.1 | exact hk.1.1.1.1.1.1.1.1.2.2.2.2.2 | exact hk.1.1.1.1.1.1.1.1.2.2.2.2.2.1 | exact hk.1.1.1.1.1.1.1 | exact hk.1.1.1.1.1.1.1.2 | exact hk.1.1.1.1.1.1.1.2.1 | exact hk.1.1.1.1.1.1.1.2.2 | exact hk.1.1.1.1.1.1.1.2.2.1 | exact hk.1.1.1.1.1.1.1.2.2.2 | exact hk.1.1.1.1.1.1.1.2.2.2.1 | exact hk.1.1.1.1.1.1.1.2.2.2.2 | exact hk.1.1.1.1.1.1.1.2.2.2.2.1 | exact hk.1.1.1.1.1.1.1.2.2.2.2.2 | exact hk.1.1.1.1.1.1.1.2.2.2.2.2.1 | exact hk.1.1.1.1.1.1 | exact hk.1.1.1.1.1.1.2 | exact hk.1.1.1.1.1.1.2.1 | exact hk.1.1.1.1.1.1.2.2 | exact hk.1.1.1.1.1.1.2.2.1 | exact hk.1.1.1.1.1.1.2.2.2 | exact hk.1.1.1.1.1.1.2.2.2.1 | exact hk.1.1.1.1.1.1.2.2.2.2 | exact hk.1.1.1.1.1.1.2.2.2.2.1 | exact hk.1.1.1.1.1.1.2.2.2.2.2 | exact hk.1.1.1.1.1.1.2.2.2.2.2.1 | exact hk.1.1.1.1.1 | exact hk.1.1.1.1.1.2 | exact hk.1.1.1.1.1.2.1 | exact hk.1.1.1.1.1.2.2 | exact hk.1.1.1.1.1.2.2.1 | exact hk.1.1.1.1.1.2.2.2 | exact hk.1.1.1.1.1.2.2.2.1 | exact hk.1.1.1.1.1.2.2.2.2 | exact hk.1.1.1.1.1.2.2.2.2.1 | exact hk.1.1.1.1.1.2.2.2.2.2 | exact hk.1.1.1.1.1.2.2.2.2.2.1 | exact hk.1.1.1.1 | exact hk.1.1.1.1.2 | exact hk.1.1.1.1.2.1 | exact hk.1.1.1.1.2.2 | exact hk.1.1.1.1.2.2.1 | exact hk.1.1.1.1.2.2.2 | exact hk.1.1.1.1.2.2.2.1 | exact hk.1.1.1.1.2.2.2.2 | exact hk.1.1.1.1.2.2.2.2.1 | exact hk.1.1.1.1.2.2.2.2.2 | exact hk.1.1.1.1.2.2.2.2.2.1 | exact hk.1.1.1 | exact hk.1.1.1.2 | exact hk.1.1.1.2.1 | exact hk.1.1.1.2.2 | exact hk.1.1.1.2.2.1 | exact hk.1.1.1.2.2.2 | exact hk.1.1.1.2.2.2.1 | exact hk.1.1.1.2.2.2.2 | exact hk.1.1.1.2.2.2.2.1 | exact hk.1.1.1.2.2.2.2.2 | exact hk.1.1.1.2.2.2.2.2.1 | exact hk.1.1 | exact hk.1.1.2 | exact hk.1.1.2.1 | exact hk.1.1.2.2 | exact hk.1.1.2.2.1 | exact hk.1.1.2.2.2 | exact hk.1.1.2.2.2.1 | exact hk.1.1.2.2.2.2 | exact hk.1.1.2.2.2.2.1 | exact hk.1.1.2.2.2.2.2 | exact hk.1.1.2.2.2.2.2.1 | exact hk.1 | exact hk.1.2 | exact hk.1.2.1 | exact hk.1.2.2 | exact hk.1.2.2.1 | exact hk.1.2.2.2 | exact hk.1.2.2.2.1 | exact hk.1.2.2.2.2 | exact hk.1.2.2.2.2.1 | exact hk.1.2.2.2.2.2 | exact hk.1.2.2.2.2.2.1 | exact hk | exact hk.2 | exact hk.2.1 | exact hk.2.2 | exact hk.2.2.1 | exact hk.2.2.2 | exact hk.2.2.2.1 | exact hk.2.2.2.2 | exact hk.2.2.2.2.1 | exact hk.2.2.2.2.2 | exact hk.2.2.2.2.2.1))⟩, ⟨by (try simp only [hl224000_72]); (try simp only [hl224001_72]); (try simp only [hl231000_72]); (try simp only [hl231001_72]); (with_reducible repeat (first | apply Kd.R_alloc | apply Kd.R_drewN | apply Kd.R_drew)); exact Kd.R_mono HO_231000.out (fun _ hk => by refine ⟨?_, ?_, ?_, ?_⟩ <;> with_reducible (first | exact hk.1.1.1.1.1.1.1.1 | exact hk.1.1.1.1.1.1.1.1.1 | exact hk.1.1.1.1.1.1.1.1.2 | exact hk.1.1.1.1.1.1.1.1.2.1 | exact hk.1.1.1.1.1.1.1.1.2.2 | exact hk.1.1.1.1.1.1.1.1.2.2.1 | exact hk.1.1.1.1.1.1.1.1.2.2.2 | exact hk.1.1.1.1.1.1.1.1.2.2.2.1 | exact hk.1.1.1.1.1.1.1.1.2.2.2.2 | exact hk.1.1.1.1.1.1.1.1.2.2.2.2.1 | exact hk.1.1.1.1.1.1.1.1.2.2.2.2.2 | exact hk.1.1.1.1.1.1.1.1.2.2.2.2.2.1 | exact hk.1.1.1.1.1.1.1 | exact hk.1.1.1.1.1.1.1.2 | exact hk.1.1.1.1.1.1.1.2.1 | exact hk.1.1.1.1.1.1.1.2.2 | exact hk.1.1.1.1.1.1.1.2.2.1 | exact hk.1.1.1.1.1.1.1.2.2.2 | exact hk.1.1.1.1.1.1.1.2.2.2.1 | exact hk.1.1.1.1.1.1.1.2.2.2.2 | exact hk.1.1.1.1.1.1.1.2.2.2.2.1 | exact hk.1.1.1.1.1.1.1.2.2.2.2.2 | exact hk.1.1.1.1.1.1.1.2.2.2.2.2.1 | exact hk.1.1.1.1.1.1 | exact hk.1.1.1.1.1.1.2 | exact hk.1.1.1.1.1.1.2.1 | exact hk.1.1.1.1.1.1.2.2 | exact hk.1.1.1.1.1.1.2.2.1 | exact hk.1.1.1.1.1.1.2.2.2 | exact hk.1.1.1.1.1.1.2.2.2.1 | exact hk.1.1.1.1.1.1.2.2.2.2 | exact hk.1.1.1.1.1.1.2.2.2.2.1 | exact hk.1.1.1.1.1.1.2.2.2.2.2 | exact hk.1.1.1.1.1.1.2.2.2.2.2.1 | exact hk.1.1.1.1.1 | exact hk.1.1.1.1.1.2 | exact hk.1.1.1.1.1.2.1 | exact hk.1.1.1.1.1.2.2 | exact hk.1.1.1.1.1.2.2.1 | exact hk.1.1.1.1.1.2.2.2 | exact hk.1.1.1.1.1.2.2.2.1 | exact hk.1.1.1.1.1.2.2.2.2 | exact hk.1.1.1.1.1.2.2.2.2.1 | exact hk.1.1.1.1.1.2.2.2.2.2 | exact hk.1.1.1.1.1.2.2.2.2.2.1 | exact hk.1.1.1.1 | exact hk.1.1.1.1.2 | exact hk.1.1.1.1.2.1 | exact hk.1.1.1.1.2.2 | exact hk.1.1.1.1.2.2.1 | exact hk.1.1.1.1.2.2.2 | exact hk.1.1.1.1.2.2.2.1 | exact hk.1.1.1.1.2.2.2.2 | exact hk.1.1.1.1.2.2.2.2.1 | exact hk.1.1.1.1.2.2.2.2.2 | exact hk.1.1.1.1.2.2.2.2.2.1 | exact hk.1.1.1 | exact hk.1.1.1.2 | exact hk.1.1.1.2.1 | exact hk.1.1.1.2.2 | exact hk.1.1.1.2.2.1 | exact hk.1.1.1.2.2.2 | exact hk.1.1.1.2.2.2.1 | exact hk.1.1.1.2.2.2.2 | exact hk.1.1.1.2.2.2.2.1 | exact hk.1.1.1.2.2.2.2.2 | exact hk.1.1.1.2.2.2.2.2.1 | exact hk.1.1 | exact hk.1.1.2 | exact hk.1.1.2.1 | exact hk.1.1.2.2 | exact hk.1.1.2.2.1 | exact hk.1.1.2.2.2 | exact hk.1.1.2.2.2.1 | exact hk.1.1.2.2.2.2 | exact hk.1.1.2.2.2.2.1 | exact hk.1.1.2.2.2.2.2 | exact hk.1.1.2.2.2.2.2.1 | exact hk.1 | exact hk.1.2 | exact hk.1.2.1 | exact hk.1.2.2 | exact hk.1.2.2.1 | exact hk.1.2.2.2 | exact hk.1.2.2.2.1 | exact hk.1.2.2.2.2 | exact hk.1.2.2.2.2.1 | exact hk.1.2.2.2.2.2 | exact hk.1.2.2.2.2.2.1 | exact hk | exact hk.2 | exact hk.2.1 | exact hk.2.2 | exact hk.2.2.1 | exact hk.2.2.2 | exact hk.2.2.2.1 | exact hk.2.2.2.2 | exact hk.2.2.2.2.1 | exact hk.2.2.2.2.2 | exact hk.2.2.2.2.2.1))⟩, ⟨by (try simp only [hl224000_72]); (try simp only [hl224001_72]); (try simp only [hl231000_72]); (try simp only [hl231001_72]); (with_reducible repeat (first | apply Kd.R_alloc | apply Kd.R_drewN | apply Kd.R_drew)); exact Kd.R_mono HO_231001.out (fun _ hk => by refine ⟨?_, ?_, ?_, ?_⟩ <;> with_reducible (first | exact hk.1.1.1.1.1.1.1.1 | exact hk.1.1.1.1.1.1.1.1.1 | exact hk.1.1.1.1.1.1.1.1.2 | exact hk.1.1.1.1.1.1.1.1.2.1 | exact hk.1.1.1.1.1.1.1.1.2.2 | exact hk.1.1.1.1.1.1.1.1.2.2.1 | exact hk.1.1.1.1.1.1.1.1.2.2.2 | exact hk.1.1.1.1.1.1.1.1.2.2.2.1 | exact hk.1.1.1.1.1.1.1.1.2.2.2.2 | exact hk.1.1.1.1.1.1.1.1.2.2.2.2.1 | exact hk.1.1.1.1.1.1.1.1.2.2.2.2.2 | exact hk.1.1.1.1.1.1.1.1.2.2.2.2.2.1 | exact hk.1.1.1.1.1.1.1 | exact hk.1.1.1.1.1.1.1.2 | exact hk.1.1.1.1.1.1.1.2.1 | exact hk.1.1.1.1.1.1.1.2.2 | exact hk.1.1.1.1.1.1.1.2.2.1 | exact hk.1.1.1.1.1.1.1.2.2.2 | exact hk.1.1.1.1.1.1.1.2.2.2.1 | exact hk.1.1.1.1.1.1.1.2.2.2.2 | exact hk.1.1.1.1.1.1.1.2.2.2.2.1 | exact hk.1.1.1.1.1.1.1.2.2.2.2.2 | exact hk.1.1.1.1.1.1.1.2.2.2.2.2.1 | exact hk.1.1.1.1.1.1 | exact hk.1.1.1.1.1.1.2 | exact hk.1.1.1.1.1.1.2.1 | exact hk.1.1.1.1.1.1.2.2 | exact hk.1.1.1.1.1.1.2.2.1 | exact hk.1.1.1.1.1.1.2.2.2 | exact hk.1.1.1.1.1.1.2.2.2.1 | exact hk.1.1.1.1.1.1.2.2.2.2 | exact hk.1.1.1.1.1.1.2.2.2.2.1 | exact hk.1.1.1.1.1.1.2.2.2.2.2 | exact hk.1.1.1.1.1.1.2.2.2.2.2.1 | exact hk.1.1.1.1.1 | exact hk.1.1.1.1.1.2 | exact hk.1.1.1.1.1.2.1 | exact hk.1.1.1.1.1.2.2 | exact hk.1.1.1.1.1.2.2.1 | exact hk.1.1.1.1.1.2.2.2 | exact hk.1.1.1.1.1.2.2.2.1 | exact hk.1.1.1.1.1.2.2.2.2 | exact hk.1.1.1.1.1.2.2.2.2.1 | exact hk.1.1.1.1.1.2.2.2.2.2 | exact hk.1.1.1.1.1.2.2.2.2.2.1 | exact hk.1.1.1.1 | exact hk.1.1.1.1.2 | exact hk.1.1.1.1.2.1 | exact hk.1.1.1.1.2.2 | exact hk.1.1.1.1.2.2.1 | exact hk.1.1.1.1.2.2.2 | exact hk.1.1.1.1.2.2.2.1 | exact hk.1.1.1.1.2.2.2.2 | exact hk.1.1.1.1.2.2.2.2.1 | exact hk.1.1.1.1.2.2.2.2.2 | exact hk.1.1.1.1.2.2.2.2.2.1 | exact hk.1.1.1 | exact hk.1.1.1.2 | exact hk.1.1.1.2.1 | exact hk.1.1.1.2.2 | exact hk.1.1.1.2.2.1 | exact hk.1.1.1.2.2.2 | exact hk.1.1.1.2.2.2.1 | exact hk.1.1.1.2.2.2.2 | exact hk.1.1.1.2.2.2.2.1 | exact hk.1.1.1.2.2.2.2.2 | exact hk.1.1.1.2.2.2.2.2.1 | exact hk.1.1 | exact hk.1.1.2 | exact hk.1.1.2.1 | exact hk.1.1.2.2 | exact hk.1.1.2.2.1 | exact hk.1.1.2.2.2 | exact hk.1.1.2.2.2.1 | exact hk.1.1.2.2.2.2 | exact hk.1.1.2.2.2.2.1 | exact hk.1.1.2.2.2.2.2 | exact hk.1.1.2.2.2.2.2.1 | exact hk.1 | exact hk.1.2 | exact hk.1.2.1 | exact hk.1.2.2 | exact hk.1.2.2.1 | exact hk.1.2.2.2 | exact hk.1.2.2.2.1 | exact hk.1.2.2.2.2 | exact hk.1.2.2.2.2.1 | exact hk.1.2.2.2.2.2 | exact hk.1.2.2.2.2.2.1 | exact hk | exact hk.2 | exact hk.2.1 | exact hk.2.2 | exact hk.2.2.1 | exact hk.2.2.2 | exact hk.2.2.2.1 | exact hk.2.2.2.2 | exact hk.2.2.2.2.1 | exact hk.2.2.2.2.2 | exact hk.2.2.2.2.2.1))⟩, ⟨by (try simp only [hl224000_72]); (try simp only [hl224001_72]); (try simp only [hl231000_72]); (try simp only [hl231001_72]); (with_reducible repeat (first | refine blk_drewN ?_ _ | refine blk_drew ?_ | refine blk_alloc ?_ _)); exact BK197.out⟩, ⟨by (try simp only [hl224000_72]); (try simp only [hl224001_72]); (try simp only [hl231000_72]); (try simp only [hl231001_72]); (with_reducible repeat (first | refine blk_drewN ?_ _ | refine blk_drew ?_ | refine blk_alloc ?_ _)); exact BK198.out⟩, ⟨by (try simp only [hl224000_72]); (try simp only [hl224001_72]); (try simp only [hl231000_72]); (try simp only [hl231001_72]); (with_reducible repeat (first | refine blk_drewN ?_ _ | refine blk_drew ?_ | refine blk_alloc ?_ _)); exact BK223.out⟩, ⟨by (try simp only [hl224000_72]); (try simp only [hl224001_72]); (try simp only [hl231000_72]); (try simp only [hl231001_72]); (with_reducible repeat (first | refine blk_drewN ?_ _ | refine blk_drew ?_ | refine blk_alloc ?_ _)); exact BK230.out⟩, ⟨by repeat (first | (with_reducible first | exact HB.out | apply below_alloc | apply pw_below_drewN | apply below_drew1 | refine below_set ?_ GE197.out | refine below_set ?_ GE198.out | refine below_set ?_ GE223.out | refine below_set ?_ GE230.out) | exact HB.out)⟩⟩
                            · replace c118 := Bool.eq_false_iff.mpr c118
                              subst c118
                              have H1 : (laws_FnExactFit.j2 kj72 t258 t257 true) = some r := by rw [if_neg (show ¬ (false = true) by decide)] at H; exact H
                              clear H
                              have H := H1
                              clear H1
                              have hz_ : ∀ kz, laws_FnExactFit.j2 kz t258 t257 true = some r → r = false := by intro kz hz; cases kz with | zero => exact absurd hz (by simp [laws_FnExactFit.j2]) | succ kz => simp only [laws_FnExactFit.j2] at hz; first | (rw [if_pos rfl] at hz; exact (Option.some.inj hz).symm) | (simp at hz; exact hz.symm) | (simp at hz; exact hz)
                              exact absurd (HT.out.symm.trans (hz_ _ H)) (by decide)
                          case rest =>
                            clear HC106
                            try clear c1
                            try clear c2
                            try clear p2
                            try clear c3
                            try clear c4
                            try clear c4b0
                            try clear c5
                            try clear c6
                            try clear c7
                            try clear c8
                            try clear c9
                            try clear c10
                            try clear c11
                            try clear c11b0
                            try clear c14
                            try clear c19
                            try clear c23
                            try clear c25
                            try clear c28
                            try clear c29
                            try clear c32
                            try clear c38
                            try clear c39
                            try clear c40
                            try clear c45
                            try clear c46
                            try clear c53
                            try clear c54
                            try clear c55
                            try clear c61
                            try clear c64
                            try clear c67
                            try clear c70
                            try clear c84
                            try clear c85
                            try clear c86
                            try clear c89
                            try clear c90
                            try clear c93
                            try clear c93b0
                            try clear c95
                            try clear c98
                            try clear c101
                            try clear c101b0
                            try clear c102
                            try clear c102b0
                            try clear c102b1
                            try clear c118
                            try clear hcz15_0
                            try clear hcz15_1
                            try clear hcz17_0
                            try clear hcz17_1
                            try clear hcz29_0
                            try clear hcz29_1
                            try clear hcz31_0
                            try clear hcz31_1
                            try clear hcz41_0
                            try clear hcz41_1
                            try clear hcz47_0
                            try clear hcz47_1
                            try clear hcz49_0
                            try clear hcz49_1
                            try clear hcz56_0
                            try clear hcz56_1
                            try clear hcz58_0
                            try clear hcz58_1
                            try clear hcz87_0
                            try clear hcz87_1
                            try clear hcz8_0
                            try clear hcz8_1
                            try clear hcz91_0
                            try clear hcz91_1
                            try clear hfz15_0
                            try clear hfz15_1
                            try clear hfz17_0
                            try clear hfz17_1
                            try clear hfz29_0
                            try clear hfz29_1
                            try clear hfz31_0
                            try clear hfz31_1
                            try clear hfz41_0
                            try clear hfz41_1
                            try clear hfz47_0
                            try clear hfz47_1
                            try clear hfz49_0
                            try clear hfz49_1
                            try clear hfz56_0
                            try clear hfz56_1
                            try clear hfz58_0
                            try clear hfz58_1
                            try clear hfz87_0
                            try clear hfz87_1
                            try clear hfz8_0
                            try clear hfz8_1
                            try clear hfz91_0
                            try clear hfz91_1
                            try clear p2
                            obtain ⟨kq, x110_105, rfl, HA, HJ105, HO_10, HO_224000, HO_224001, HO_231000, HO_231001, BK197, BK198, BK223, BK230, HB⟩ := hcut
                            have hl10_105 := (Kd.R_reads' HO_10.out).1
                            rw [hl10_105] at HO_10
                            (try simp only [hl10_105])
                            (try simp only [hl10_105] at BK197)
                            (try simp only [hl10_105] at BK198)
                            (try simp only [hl10_105] at BK223)
                            (try simp only [hl10_105] at BK230)
                            (try simp only [hl10_105] at HO_224000)
                            (try simp only [hl10_105] at HO_224001)
                            (try simp only [hl10_105] at HO_231000)
                            (try simp only [hl10_105] at HO_231001)
                            cases kq with
                            | zero => exact absurd HA.out (by simp [laws_FnExactFit.j2])
                            | succ kj105 =>
                              have H := HA.out
                              clear HA
                              simp only [laws_FnExactFit.j2] at H
                              by_cases c121 : x110_105 = true
                              · subst c121
                                have H1 : (some false) = some r := by rw [if_pos rfl] at H; exact H
                                clear H
                                have H := H1
                                clear H1
                                obtain rfl := Option.some.inj H
                                exact absurd HT.out (by decide)
                              · replace c121 := Bool.eq_false_iff.mpr c121
                                subst c121
                                have H1 : ((laws_heldIntS.f kj105 t258 1).bind fun t277 => (if t277 < 0 then (some false) else (if t277 = t257 then (some true) else (some false)))) = some r := by rw [if_neg (show ¬ (false = true) by decide)] at H; exact H
                                clear H
                                have H := H1
                                clear H1
                                replace H := Option.bind_eq_some_iff.mp H
                                obtain ⟨t277, A1220, H⟩ := H
                                replace H : (if t277 < 0 then (some false) else (if t277 = t257 then (some true) else (some false))) = some r := H
                                have A122 := Aside0.mk A1220
                                clear A1220
                                by_cases c123 : t277 < 0
                                · rw [if_pos c123] at H
                                  have c123b0 : decide (t277 < 0) = true := decide_eq_true c123
                                  clear c123
                                  obtain rfl := Option.some.inj H
                                  exact absurd HT.out (by decide)
                                · rw [if_neg c123] at H
                                  have c123b0 : decide (t277 < 0) = false := decide_eq_false c123
                                  clear c123
                                  by_cases c124 : t277 = t257
                                  · rw [if_pos c124] at H
                                    have c124b0 : (t277 == t257) = true := beq_iff_eq.mpr c124
                                    have c124b1 : (t277 != t257) = false := bne_eq_false_iff_eq.mpr c124
                                    clear c124
                                    obtain rfl := Option.some.inj H
                                    go_wp2_with (first | ((with_reducible refine gate_callee (f := 40) rfl ?_); refine goesL_ (some 113) rfl rfl Try.func40 (by kernel_rfl) rfl #[.slice Ao107 t258.length co107, .int .i64 1] rfl (by (try simp only [List.map_toArray, List.map_cons, List.map_nil]); first | done | rfl | (simp only [List.length_drop, List.length_take]; rfl)) ?_; (with_reducible refine (laws_heldIntS.calls kj105 _ _ t258 1 t277 _ ?side1 ?side2 A122.out).mono ?_); (case side1 => repeat (first | exact (Kd.R_reads' HO_10.out).2.2 | (with_reducible refine Kd.C_alloc ?_ _) | (with_reducible refine Kd.C_drewN ?_ _) | (with_reducible refine Kd.C_drew ?_))); (case side2 => exact (Kd.R_reads' HO_10.out).2.1); rintro e w' ⟨rfl, ⟨nd, rfl⟩⟩; refine ⟨_, rfl, ?_⟩))
                                    go_ret
                                    exact ⟨by first | rfl | (simp [errW_none, errW_some] <;> rfl) | (simp [*, errW_none, errW_some] <;> rfl), by repeat (first | (with_reducible first | exact HB.out | apply below_alloc | apply pw_below_drewN | apply below_drew1 | refine below_set ?_ GE197.out | refine below_set ?_ GE198.out | refine below_set ?_ GE223.out | refine below_set ?_ GE230.out) | exact HB.out)⟩
                                  · rw [if_neg c124] at H
                                    have c124b0 : (t277 == t257) = false := beq_eq_false_iff_ne.mpr c124
                                    have c124b1 : (t277 != t257) = true := bne_iff_ne.mpr c124
                                    obtain rfl := Option.some.inj H
                                    exact absurd HT.out (by decide)
                        · rw [if_neg c102] at H
                          have c102b0 : (t259 == t257) = false := beq_eq_false_iff_ne.mpr c102
                          have c102b1 : (t259 != t257) = true := bne_iff_ne.mpr c102
                          obtain rfl := Option.some.inj H
                          exact absurd HT.out (by decide)
              · replace c70 := Bool.eq_false_iff.mpr c70
                subst c70
                have H1 : (some false) = some r := by rw [if_neg (show ¬ (false = true) by decide)] at H; exact H
                clear H
                have H := H1
                clear H1
                obtain rfl := Option.some.inj H
                exact absurd HT.out (by decide)
            · replace c67 := Bool.eq_false_iff.mpr c67
              subst c67
              have H1 : (some false) = some r := by rw [if_neg (show ¬ (false = true) by decide)] at H; exact H
              clear H
              have H := H1
              clear H1
              obtain rfl := Option.some.inj H
              exact absurd HT.out (by decide)

end Go.Proofs.Ytlaikodjcjfeiaa.PFnExactFit
