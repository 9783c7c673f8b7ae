/- The walk of what a law reaches, for the law's row: written by a program of this session; it has no condition of its own. -/
import Derived.Test.YtjkbndfaemjjiaaPFnExactEachTwox0
import Derived.Test.YtjkbndfaemjjiaaQ
import Derived.Test.YtjkbndfaemjjiaaPFnExactEachTwox1
import Derived.Test.YtjkbndfaemjjiaaPFnExactEachTwox4
import Derived.Test.YtjkbndfaemjjiaaPFnExactEachTwox5
import Derived.Test.YtjkbndfaemjjiaaPFnExactEachTwox8
import Derived.Test.YtjkbndfaemjjiaaPFnExactEachTwox9
namespace Go.Proofs.Ytjkbndfaemjjiaa.PFnExactEachTwo
open Go.RowKit Go.Proofs.YtjkbndfaemjjiaaW.PrintWords Go.Proofs.YtjkbndfaemjjiaaW.PrintLast Go.Proofs.YtjkbndfaemjjiaaW.PrintMore Go.Proofs.YtjkbndfaemjjiaaQ
attribute [local go_sem] max2_int min2_int max_two min_two max_three min_three max_four min_four   -- for this text's walks alone
set_option linter.unusedVariables false
set_option linter.unusedSimpArgs false

/-! ### laws_FnExactEachTwo: function 3 -/
mutual
def laws_FnExactEachTwo.j0 : Nat → Int → Int → Int → Bool → List Int → List Int → List Int → List Int → List Int → List Int → List Int → List Int → List Int → List Int → List Int → List Int → Option (Bool)
 | 0, _, _, _, _, _, _, _, _, _, _, _, _, _, _, _, _ => none
 | k + 1, x0, x9, x13, x57, x291000, x291001, x292000, x292001, x314000, x314001, x321000, x321001, x328000, x328001, x336000, x336001 => if x57 = true then (some false) else ((laws_toArray.f k x291000 x291001).bind fun bt337 => ((laws_eqArray.f k x321000 x321001 bt337.1 bt337.2).bind fun t343 => (if t343 = true then ((laws_toArray.f k x292000 x292001).bind fun bt344 => ((laws_eqArray.f k x328000 x328001 bt344.1 bt344.2).bind fun t350 => (if t350 = true then ((laws_markArray.f k x321000 x321001 1).bind fun bt351 => ((laws_markArray.f k x328000 x328001 bt351.1).bind fun bt354 => (if bt354.1 < 0 then (laws_FnExactEachTwo.j1 k x0 x9 true x291000 x291001 x292000 x292001 x314000 x314001 x336000 x336001) else ((laws_eqArray.f k x336000 x336001 x314000 x314001).bind fun t357 => (if t357 = true then (laws_FnExactEachTwo.j1 k x0 x9 (x13 != x9) x291000 x291001 x292000 x292001 x314000 x314001 x336000 x336001) else (laws_FnExactEachTwo.j1 k x0 x9 true x291000 x291001 x292000 x292001 x314000 x314001 x336000 x336001)))))) else (some false)))) else (some false))))
def laws_FnExactEachTwo.j1 : Nat → Int → Int → Bool → List Int → List Int → List Int → List Int → List Int → List Int → List Int → List Int → Option (Bool)
 | 0, _, _, _, _, _, _, _, _, _, _, _ => none
 | k + 1, x0, x9, x86, x291000, x291001, x292000, x292001, x314000, x314001, x336000, x336001 => if x86 = true then (some false) else ((laws_markArray.f k x336000 x336001 1).bind fun bt358 => ((laws_heldArray.f k bt358.2.1 bt358.2.2 1).bind fun t361 => (if t361 < 0 then (some false) else (if t361 = bt358.1 then ((laws_toArray.f k x291000 x291001).bind fun bt362 => ((laws_toArray.f k x292000 x292001).bind fun bt368 => ((impl_EachTwo.f k x0 bt362.1 bt362.2 bt368.1 bt368.2).bind fun bt374 => ((laws_eqArray.f k bt374.1 bt374.2.1 x314000 x314001).bind fun t382 => (if t382 = true then (laws_FnExactEachTwo.j2 k bt358.1 (bt374.2.2 != x9) bt358.2.1 bt358.2.2) else (laws_FnExactEachTwo.j2 k bt358.1 true bt358.2.1 bt358.2.2)))))) else (some false)))))
def laws_FnExactEachTwo.j2 : Nat → Int → Bool → List Int → List Int → Option (Bool)
 | 0, _, _, _, _ => none
 | k + 1, x15, x115, x336000, x336001 => if x115 = true then (some false) else ((laws_heldArray.f k x336000 x336001 1).bind fun t383 => (if t383 < 0 then (some false) else (if t383 = x15 then (some true) else (some false))))
end
def laws_FnExactEachTwo.f (k : Nat) (a0 : Int) (l1_0 : List Int) (l1_1 : List Int) (l2_0 : List Int) (l2_1 : List Int) : Option (Bool) := (laws_szArray.f l1_0 l1_1 1048576).bind fun t292 => (if t292 < 0 then (some true) else ((laws_szArray.f l2_0 l2_1 t292).bind fun t293 => (if t293 < 0 then (some true) else ((laws_toArray.f k l1_0 l1_1).bind fun bt294 => ((laws_toArray.f k l2_0 l2_1).bind fun bt300 => ((spec_EachTwo.f k a0 bt294.1 bt294.2 bt300.1 bt300.2).bind fun bt306 => ((laws_toArray.f k l1_0 l1_1).bind fun bt314 => ((laws_toArray.f k l2_0 l2_1).bind fun bt321 => ((impl_EachTwo.f k a0 bt314.1 bt314.2 bt321.1 bt321.2).bind fun bt328 => ((laws_eqArray.f k bt328.1 bt328.2.1 bt306.1 bt306.2.1).bind fun t336 => (if t336 = true then (laws_FnExactEachTwo.j0 k a0 bt306.2.2 bt328.2.2 (bt328.2.2 != bt306.2.2) l1_0 l1_1 l2_0 l2_1 bt306.1 bt306.2.1 bt314.1 bt314.2 bt321.1 bt321.2 bt328.1 bt328.2.1) else (laws_FnExactEachTwo.j0 k a0 bt306.2.2 bt328.2.2 true l1_0 l1_1 l2_0 l2_1 bt306.1 bt306.2.1 bt314.1 bt314.2 bt321.1 bt321.2 bt328.1 bt328.2.1))))))))))))
theorem laws_FnExactEachTwo.mono_l : ∀ k, (∀ y0 y1 y2 y3 y4 y5 y6 y7 y8 y9 y10 y11 y12 y13 y14 y15, LeO (laws_FnExactEachTwo.j0 k y0 y1 y2 y3 y4 y5 y6 y7 y8 y9 y10 y11 y12 y13 y14 y15) (laws_FnExactEachTwo.j0 (k + 1) y0 y1 y2 y3 y4 y5 y6 y7 y8 y9 y10 y11 y12 y13 y14 y15)) ∧ (∀ y0 y1 y2 y3 y4 y5 y6 y7 y8 y9 y10, LeO (laws_FnExactEachTwo.j1 k y0 y1 y2 y3 y4 y5 y6 y7 y8 y9 y10) (laws_FnExactEachTwo.j1 (k + 1) y0 y1 y2 y3 y4 y5 y6 y7 y8 y9 y10)) ∧ (∀ y0 y1 y2 y3, LeO (laws_FnExactEachTwo.j2 k y0 y1 y2 y3) (laws_FnExactEachTwo.j2 (k + 1) y0 y1 y2 y3))
 | 0 => ⟨fun _ _ _ _ _ _ _ _ _ _ _ _ _ _ _ _ r h => by simp [laws_FnExactEachTwo.j0] at h, fun _ _ _ _ _ _ _ _ _ _ _ r h => by simp [laws_FnExactEachTwo.j1] at h, fun _ _ _ _ r h => by simp [laws_FnExactEachTwo.j2] at h⟩
 | k + 1 => by
  obtain ⟨ih0, ih1, ih2⟩ := laws_FnExactEachTwo.mono_l k
  refine ⟨?_, ?_, ?_⟩
  ·
   intro y0 y1 y2 y3 y4 y5 y6 y7 y8 y9 y10 y11 y12 y13 y14 y15
   unfold laws_FnExactEachTwo.j0
   repeat' first
   | (with_reducible exact ih0 _ _ _ _ _ _ _ _ _ _ _ _ _ _ _ _)
   | (with_reducible exact ih1 _ _ _ _ _ _ _ _ _ _ _)
   | (with_reducible exact ih2 _ _ _ _)
   | (with_reducible exact impl_EachTwo.mono _ _ _ _ _ _)
   | (with_reducible exact laws_eqArray.mono _ _ _ _ _)
   | (with_reducible exact laws_heldArray.mono _ _ _ _)
   | (with_reducible exact laws_markArray.mono _ _ _ _)
   | (with_reducible exact laws_toArray.mono _ _ _)
   | (with_reducible exact spec_EachTwo.mono _ _ _ _ _ _)
   | (with_reducible exact LeO.refl _)
   | (with_reducible exact LeO.none _)
   | (with_reducible refine LeO.ite ?_ ?_)
   | (with_reducible refine LeO.bind ?_ (fun _ => ?_))
   | exact ih0 _ _ _ _ _ _ _ _ _ _ _ _ _ _ _ _
   | exact ih1 _ _ _ _ _ _ _ _ _ _ _
   | exact ih2 _ _ _ _
   | exact impl_EachTwo.mono _ _ _ _ _ _
   | exact laws_eqArray.mono _ _ _ _ _
   | exact laws_heldArray.mono _ _ _ _
   | exact laws_markArray.mono _ _ _ _
   | exact laws_toArray.mono _ _ _
   | exact spec_EachTwo.mono _ _ _ _ _ _
   | exact LeO.none _
   | refine LeO.ite ?_ ?_
   | refine LeO.bind ?_ (fun _ => ?_)
  ·
   intro y0 y1 y2 y3 y4 y5 y6 y7 y8 y9 y10
   unfold laws_FnExactEachTwo.j1
   repeat' first
   | (with_reducible exact ih0 _ _ _ _ _ _ _ _ _ _ _ _ _ _ _ _)
   | (with_reducible exact ih1 _ _ _ _ _ _ _ _ _ _ _)
   | (with_reducible exact ih2 _ _ _ _)
   | (with_reducible exact impl_EachTwo.mono _ _ _ _ _ _)
   | (with_reducible exact laws_eqArray.mono _ _ _ _ _)
   | (with_reducible exact laws_heldArray.mono _ _ _ _)
   | (with_reducible exact laws_markArray.mono _ _ _ _)
   | (with_reducible exact laws_toArray.mono _ _ _)
   | (with_reducible exact spec_EachTwo.mono _ _ _ _ _ _)
   | (with_reducible exact LeO.refl _)
   | (with_reducible exact LeO.none _)
   | (with_reducible refine LeO.ite ?_ ?_)
   | (with_reducible refine LeO.bind ?_ (fun _ => ?_))
   | exact ih0 _ _ _ _ _ _ _ _ _ _ _ _ _ _ _ _
   | exact ih1 _ _ _ _ _ _ _ _ _ _ _
   | exact ih2 _ _ _ _
   | exact impl_EachTwo.mono _ _ _ _ _ _
   | exact laws_eqArray.mono _ _ _ _ _
   | exact laws_heldArray.mono _ _ _ _
   | exact laws_markArray.mono _ _ _ _
   | exact laws_toArray.mono _ _ _
   | exact spec_EachTwo.mono _ _ _ _ _ _
   | exact LeO.none _
   | refine LeO.ite ?_ ?_
   | refine LeO.bind ?_ (fun _ => ?_)
  ·
   intro y0 y1 y2 y3
   unfold laws_FnExactEachTwo.j2
   repeat' first
   | (with_reducible exact ih0 _ _ _ _ _ _ _ _ _ _ _ _ _ _ _ _)
   | (with_reducible exact ih1 _ _ _ _ _ _ _ _ _ _ _)
   | (with_reducible exact ih2 _ _ _ _)
   | (with_reducible exact impl_EachTwo.mono _ _ _ _ _ _)
   | (with_reducible exact laws_eqArray.mono _ _ _ _ _)
   | (with_reducible exact laws_heldArray.mono _ _ _ _)
   | (with_reducible exact laws_markArray.mono _ _ _ _)
   | (with_reducible exact laws_toArray.mono _ _ _)
   | (with_reducible exact spec_EachTwo.mono _ _ _ _ _ _)
   | (with_reducible exact LeO.refl _)
   | (with_reducible exact LeO.none _)
   | (with_reducible refine LeO.ite ?_ ?_)
   | (with_reducible refine LeO.bind ?_ (fun _ => ?_))
   | exact ih0 _ _ _ _ _ _ _ _ _ _ _ _ _ _ _ _
   | exact ih1 _ _ _ _ _ _ _ _ _ _ _
   | exact ih2 _ _ _ _
   | exact impl_EachTwo.mono _ _ _ _ _ _
   | exact laws_eqArray.mono _ _ _ _ _
   | exact laws_heldArray.mono _ _ _ _
   | exact laws_markArray.mono _ _ _ _
   | exact laws_toArray.mono _ _ _
   | exact spec_EachTwo.mono _ _ _ _ _ _
   | exact LeO.none _
   | refine LeO.ite ?_ ?_
   | refine LeO.bind ?_ (fun _ => ?_)
theorem laws_FnExactEachTwo.mono : ∀ a0 a1 a2 a3 a4 k, LeO (laws_FnExactEachTwo.f k a0 a1 a2 a3 a4) (laws_FnExactEachTwo.f (k + 1) a0 a1 a2 a3 a4) := by
 intro a0 a1 a2 a3 a4 k
 obtain ⟨ih0, ih1, ih2⟩ := laws_FnExactEachTwo.mono_l k
 unfold laws_FnExactEachTwo.f
 repeat' first
   | (with_reducible exact ih0 _ _ _ _ _ _ _ _ _ _ _ _ _ _ _ _)
   | (with_reducible exact ih1 _ _ _ _ _ _ _ _ _ _ _)
   | (with_reducible exact ih2 _ _ _ _)
   | (with_reducible exact impl_EachTwo.mono _ _ _ _ _ _)
   | (with_reducible exact laws_eqArray.mono _ _ _ _ _)
   | (with_reducible exact laws_heldArray.mono _ _ _ _)
   | (with_reducible exact laws_markArray.mono _ _ _ _)
   | (with_reducible exact laws_toArray.mono _ _ _)
   | (with_reducible exact spec_EachTwo.mono _ _ _ _ _ _)
   | (with_reducible exact LeO.refl _)
   | (with_reducible exact LeO.none _)
   | (with_reducible refine LeO.ite ?_ ?_)
   | (with_reducible refine LeO.bind ?_ (fun _ => ?_))
   | exact ih0 _ _ _ _ _ _ _ _ _ _ _ _ _ _ _ _
   | exact ih1 _ _ _ _ _ _ _ _ _ _ _
   | exact ih2 _ _ _ _
   | exact impl_EachTwo.mono _ _ _ _ _ _
   | exact laws_eqArray.mono _ _ _ _ _
   | exact laws_heldArray.mono _ _ _ _
   | exact laws_markArray.mono _ _ _ _
   | exact laws_toArray.mono _ _ _
   | exact spec_EachTwo.mono _ _ _ _ _ _
   | exact LeO.none _
   | refine LeO.ite ?_ ?_
   | refine LeO.bind ?_ (fun _ => ?_)
def laws_FnExactEachTwo.T8 : Bool × List (List Nat × List Nat) := (true, [([], []), ([], []), ([1], [1]), ([], []), ([3, 2], [3]), ([0, 2, 4, 4], [0, 2, 4]), ([5], [5]), ([6], [6]), ([6], [6]), ([], []), ([9, 7, 5, 0, 1, 2, 3, 4, 5, 6, 7, 9], [7, 9]), ([8, 10, 0, 1, 2, 3, 4, 5, 6, 7, 8, 9, 10], [8])])
def laws_FnExactEachTwo.B8 : List Nat := [0, 0, 2, 0, 14, 31, 63, 127, 127, 0, 767, 2047]
theorem laws_FnExactEachTwo.tab8 : rtab .any (opsOf Try.f3 8) = laws_FnExactEachTwo.T8 := by kernel_rfl
theorem laws_FnExactEachTwo.bits8 : waitsOk laws_FnExactEachTwo.T8.2 laws_FnExactEachTwo.B8 = true := by kernel_rfl
def laws_FnExactEachTwo.T31 : Bool × List (List Nat × List Nat) := (true, [([], []), ([], []), ([1], [1]), ([], []), ([3, 2], [3]), ([0, 2, 4, 4], [0, 2, 4]), ([5], [5]), ([6], [6]), ([6], [6]), ([], []), ([9, 7, 5, 0, 1, 2, 3, 4, 5, 6, 7, 9], [7, 9]), ([8, 10, 0, 1, 2, 3, 4, 5, 6, 7, 8, 9, 10], [8])])
def laws_FnExactEachTwo.B31 : List Nat := [0, 0, 2, 0, 14, 31, 63, 127, 127, 0, 767, 2047]
theorem laws_FnExactEachTwo.tab31 : rtab .any (opsOf Try.f3 31) = laws_FnExactEachTwo.T31 := by kernel_rfl
theorem laws_FnExactEachTwo.bits31 : waitsOk laws_FnExactEachTwo.T31.2 laws_FnExactEachTwo.B31 = true := by kernel_rfl
set_option maxHeartbeats 8000000 in
set_option maxRecDepth 100000 in
def laws_FnExactEachTwo.part1 : {P : Prop // (True → P) → ∀ (k : Nat) (a0 : Int) (A1_0 : Option Addr) (c1_0 : Nat) (l1_0 : List Int) (A1_1 : Option Addr) (c1_1 : Nat) (l1_1 : List Int) (A2_0 : Option Addr) (c2_0 : Nat) (l2_0 : List Int) (A2_1 : Option Addr) (c2_1 : Nat) (l2_1 : List Int) (r : Bool) (w : World) (hr1_0 : Kd.C (Kd.int .i64) w A1_0 l1_0.length l1_0) (hc1_0 : l1_0.length ≤ c1_0) (hr1_1 : Kd.C (Kd.int .i64) w A1_1 l1_1.length l1_1) (hc1_1 : l1_1.length ≤ c1_1) (hr2_0 : Kd.C (Kd.int .i64) w A2_0 l2_0.length l2_0) (hc2_0 : l2_0.length ≤ c2_0) (hr2_1 : Kd.C (Kd.int .i64) w A2_1 l2_1.length l2_1) (hc2_1 : l2_1.length ≤ c2_1) (h : laws_FnExactEachTwo.f k a0 l1_0 l1_1 l2_0 l2_1 = some r) (hT : r = true), Calls Try.prog 3 #[.int .i64 a0, .agg #[.slice A1_0 l1_0.length c1_0, .slice A1_1 l1_1.length c1_1], .agg #[.slice A2_0 l2_0.length c2_0, .slice A2_1 l2_1.length c2_1]] w fun e w' => e = .returned (.bool r) ∧ Below w.heap.size w w'} := ⟨_, fun hRest_ => by
 intro k a0 A1_0 c1_0 l1_0 A1_1 c1_1 l1_1 A2_0 c2_0 l2_0 A2_1 c2_1 l2_1 r w hr1_0 hc1_0 hr1_1 hc1_1 hr2_0 hc2_0 hr2_1 hc2_1 h hT
 have HT := Aside0.mk hT
 clear hT
 have hu24 := Try.underlying24
 have hu26 := Try.underlying26
 have HR1_0 := Aside0.mk hr1_0
 have HC1_0 := Aside0.mk hc1_0
 clear hr1_0 hc1_0
 have HR1_1 := Aside0.mk hr1_1
 have HC1_1 := Aside0.mk hc1_1
 clear hr1_1 hc1_1
 have HR2_0 := Aside0.mk hr2_0
 have HC2_0 := Aside0.mk hc2_0
 clear hr2_0 hc2_0
 have HR2_1 := Aside0.mk hr2_1
 have HC2_1 := Aside0.mk hc2_1
 clear hr2_1 hc2_1
 have HB := Aside0.mk (Below.refl w.heap.size w)
 have H : ((laws_szArray.f l1_0 l1_1 1048576).bind fun t292 => (if t292 < 0 then (some true) else ((laws_szArray.f l2_0 l2_1 t292).bind fun t293 => (if t293 < 0 then (some true) else ((laws_toArray.f k l1_0 l1_1).bind fun bt294 => ((laws_toArray.f k l2_0 l2_1).bind fun bt300 => ((spec_EachTwo.f k a0 bt294.1 bt294.2 bt300.1 bt300.2).bind fun bt306 => ((laws_toArray.f k l1_0 l1_1).bind fun bt314 => ((laws_toArray.f k l2_0 l2_1).bind fun bt321 => ((impl_EachTwo.f k a0 bt314.1 bt314.2 bt321.1 bt321.2).bind fun bt328 => ((laws_eqArray.f k bt328.1 bt328.2.1 bt306.1 bt306.2.1).bind fun t336 => (if t336 = true then (laws_FnExactEachTwo.j0 k a0 bt306.2.2 bt328.2.2 (bt328.2.2 != bt306.2.2) l1_0 l1_1 l2_0 l2_1 bt306.1 bt306.2.1 bt314.1 bt314.2 bt321.1 bt321.2 bt328.1 bt328.2.1) else (laws_FnExactEachTwo.j0 k a0 bt306.2.2 bt328.2.2 true l1_0 l1_1 l2_0 l2_1 bt306.1 bt306.2.1 bt314.1 bt314.2 bt321.1 bt321.2 bt328.1 bt328.2.1))))))))))))) = some r := h
 clear h
 replace H := Option.bind_eq_some_iff.mp H
 obtain ⟨t292, A40, H⟩ := H
 replace H : (if t292 < 0 then (some true) else ((laws_szArray.f l2_0 l2_1 t292).bind fun t293 => (if t293 < 0 then (some true) else ((laws_toArray.f k l1_0 l1_1).bind fun bt294 => ((laws_toArray.f k l2_0 l2_1).bind fun bt300 => ((spec_EachTwo.f k a0 bt294.1 bt294.2 bt300.1 bt300.2).bind fun bt306 => ((laws_toArray.f k l1_0 l1_1).bind fun bt314 => ((laws_toArray.f k l2_0 l2_1).bind fun bt321 => ((impl_EachTwo.f k a0 bt314.1 bt314.2 bt321.1 bt321.2).bind fun bt328 => ((laws_eqArray.f k bt328.1 bt328.2.1 bt306.1 bt306.2.1).bind fun t336 => (if t336 = true then (laws_FnExactEachTwo.j0 k a0 bt306.2.2 bt328.2.2 (bt328.2.2 != bt306.2.2) l1_0 l1_1 l2_0 l2_1 bt306.1 bt306.2.1 bt314.1 bt314.2 bt321.1 bt321.2 bt328.1 bt328.2.1) else (laws_FnExactEachTwo.j0 k a0 bt306.2.2 bt328.2.2 true l1_0 l1_1 l2_0 l2_1 bt306.1 bt306.2.1 bt314.1 bt314.2 bt321.1 bt321.2 bt328.1 bt328.2.1)))))))))))) = some r := H
 have A4 := Aside0.mk A40
 clear A40
 by_cases c5 : t292 < 0
 ·
  rw [if_pos c5] at H
  have c5b0 : decide (t292 < 0) = true := decide_eq_true c5
  clear c5
  obtain rfl := Option.some.inj H
  go_enter Try.func3, Try.ntmps3
  go_wp2_with (first | ((with_reducible refine gate_dst (N := 4) rfl ?_); refine box_event ?hg (N := 4) ?hd (cs := #[.slice A1_0 l1_0.length c1_0, .slice A1_1 l1_1.length c1_1]) (t := 24) ?hr ?_; (case hd => rfl); (case hg => rfl); (case hr => first | (go_simp; done) | (go_simp; rfl)); intro gb290 hg w6 hbox hb; have BK290 := Aside0.mk (hbox); have GW290 := Aside0.mk ((by rw [hg]; exact (below_size (bU HB.out)) : w.heap.size ≤ gb290)); have GE290 := Aside0.mk ((by rw [hg]; exact (below_size (bU HB.out)) : w.heap.size ≤ gb290)); replace HB := Aside0.mk (below_step (bU HB.out) hb); clear hb hbox hg) | ((with_reducible refine gate_dst (N := 5) rfl ?_); refine box_event ?hg (N := 5) ?hd (cs := #[.slice A2_0 l2_0.length c2_0, .slice A2_1 l2_1.length c2_1]) (t := 24) ?hr ?_; (case hd => rfl); (case hg => rfl); (case hr => first | (go_simp; done) | (go_simp; rfl)); intro gb291 hg w7 hbox hb; have BK291 := Aside0.mk (hbox); have GW291 := Aside0.mk ((by rw [hg]; exact (below_size (bS1 HB.out GE290.out)) : w.heap.size ≤ gb291)); have GE291 := Aside0.mk ((by rw [hg]; exact (below_size (bS1 HB.out GE290.out)) : w.heap.size ≤ gb291)); replace HB := Aside0.mk (below_step (bS1 HB.out GE290.out) hb); have NB290_291 := Aside0.mk ((by rw [hg]; exact Nat.ne_of_lt (blk_lt (g := gb290) (o := .cells #[.slice A1_0 l1_0.length c1_0, .slice A1_1 l1_1.length c1_1] 24 (0, 0)) (kU BK290.out)) : gb290 ≠ gb291)); have NB291_290 := Aside0.mk ((by rw [hg]; exact Nat.ne_of_gt (blk_lt (g := gb290) (o := .cells #[.slice A1_0 l1_0.length c1_0, .slice A1_1 l1_1.length c1_1] 24 (0, 0)) (kU BK290.out)) : gb291 ≠ gb290)); replace BK290 := Aside0.mk (blk_below (g := gb290) (o := .cells #[.slice A1_0 l1_0.length c1_0, .slice A1_1 l1_1.length c1_1] 24 (0, 0)) (kU BK290.out) hb); clear hb hbox hg; have hnb8 := NB290_291.out; have hnc8 := NB291_290.out; have hcz9_0 : w7.cell? ⟨gb290, 0, none⟩ = some (.slice A1_0 l1_0.length c1_0) := (blk_cell BK290.out 0).trans rfl; have hcz9_1 : w7.cell? ⟨gb290, 1, none⟩ = some (.slice A1_1 l1_1.length c1_1) := (blk_cell BK290.out 1).trans rfl; have hfz9_0 := blk_frozen BK290.out 0; have hfz9_1 := blk_frozen BK290.out 1) | ((with_reducible refine gate_callee (f := 5) rfl ?_); refine goesL_ (some 21) rfl rfl Try.func5 (by kernel_rfl) rfl #[.agg #[.slice A1_0 l1_0.length c1_0, .slice A1_1 l1_1.length c1_1], .int .i64 1048576] rfl (by (try simp only [List.map_toArray, List.map_cons, List.map_nil]); first | done | rfl | (simp only [List.length_drop, List.length_take]; rfl)) ?_; (with_reducible refine (laws_szArray.calls _ _ l1_0 _ _ l1_1 1048576 t292 _ ?side1 ?side2 ?side3 ?side4 A4.out).mono ?_); (case side1 => exact cU (Kd.C_below HR1_0.out HB.out)); (case side2 => exact HC1_0.out); (case side3 => exact cU (Kd.C_below HR1_1.out HB.out)); (case side4 => exact HC1_1.out); rintro e w10 ⟨rfl, hb⟩; refine ⟨_, rfl, ?_⟩; replace BK290 := Aside0.mk (blk_below (g := gb290) (o := .cells #[.slice A1_0 l1_0.length c1_0, .slice A1_1 l1_1.length c1_1] 24 (0, 0)) (kU BK290.out) hb); replace BK291 := Aside0.mk (blk_below (g := gb291) (o := .cells #[.slice A2_0 l2_0.length c2_0, .slice A2_1 l2_1.length c2_1] 24 (0, 0)) (kU BK291.out) hb); replace HB := Aside0.mk (below_step (bS2 HB.out GE290.out GE291.out) hb); (try clear hb); (try clear hb2); (try clear hk); (try clear hi)))
  go_ret
  exact ⟨by first | rfl | (simp [errW_none, errW_some] <;> rfl) | (simp [*, errW_none, errW_some] <;> rfl), by repeat (first | (with_reducible first | exact HB.out | apply below_alloc | apply pw_below_drewN | apply below_drew1 | refine below_set ?_ GE290.out | refine below_set ?_ GE291.out) | exact HB.out)⟩
 ·
  rw [if_neg c5] at H
  have c5b0 : decide (t292 < 0) = false := decide_eq_false c5
  clear c5
  replace H := Option.bind_eq_some_iff.mp H
  obtain ⟨t293, A110, H⟩ := H
  replace H : (if t293 < 0 then (some true) else ((laws_toArray.f k l1_0 l1_1).bind fun bt294 => ((laws_toArray.f k l2_0 l2_1).bind fun bt300 => ((spec_EachTwo.f k a0 bt294.1 bt294.2 bt300.1 bt300.2).bind fun bt306 => ((laws_toArray.f k l1_0 l1_1).bind fun bt314 => ((laws_toArray.f k l2_0 l2_1).bind fun bt321 => ((impl_EachTwo.f k a0 bt314.1 bt314.2 bt321.1 bt321.2).bind fun bt328 => ((laws_eqArray.f k bt328.1 bt328.2.1 bt306.1 bt306.2.1).bind fun t336 => (if t336 = true then (laws_FnExactEachTwo.j0 k a0 bt306.2.2 bt328.2.2 (bt328.2.2 != bt306.2.2) l1_0 l1_1 l2_0 l2_1 bt306.1 bt306.2.1 bt314.1 bt314.2 bt321.1 bt321.2 bt328.1 bt328.2.1) else (laws_FnExactEachTwo.j0 k a0 bt306.2.2 bt328.2.2 true l1_0 l1_1 l2_0 l2_1 bt306.1 bt306.2.1 bt314.1 bt314.2 bt321.1 bt321.2 bt328.1 bt328.2.1)))))))))) = some r := H
  have A11 := Aside0.mk A110
  clear A110
  by_cases c12 : t293 < 0
  ·
   rw [if_pos c12] at H
   have c12b0 : decide (t293 < 0) = true := decide_eq_true c12
   clear c12
   obtain rfl := Option.some.inj H
   go_enter Try.func3, Try.ntmps3
   go_wp2_with (first | ((with_reducible refine gate_dst (N := 4) rfl ?_); refine box_event ?hg (N := 4) ?hd (cs := #[.slice A1_0 l1_0.length c1_0, .slice A1_1 l1_1.length c1_1]) (t := 24) ?hr ?_; (case hd => rfl); (case hg => rfl); (case hr => first | (go_simp; done) | (go_simp; rfl)); intro gb290 hg w13 hbox hb; have BK290 := Aside0.mk (hbox); have GW290 := Aside0.mk ((by rw [hg]; exact (below_size (bU HB.out)) : w.heap.size ≤ gb290)); have GE290 := Aside0.mk ((by rw [hg]; exact (below_size (bU HB.out)) : w.heap.size ≤ gb290)); replace HB := Aside0.mk (below_step (bU HB.out) hb); clear hb hbox hg) | ((with_reducible refine gate_dst (N := 5) rfl ?_); refine box_event ?hg (N := 5) ?hd (cs := #[.slice A2_0 l2_0.length c2_0, .slice A2_1 l2_1.length c2_1]) (t := 24) ?hr ?_; (case hd => rfl); (case hg => rfl); (case hr => first | (go_simp; done) | (go_simp; rfl)); intro gb291 hg w14 hbox hb; have BK291 := Aside0.mk (hbox); have GW291 := Aside0.mk ((by rw [hg]; exact (below_size (bS1 HB.out GE290.out)) : w.heap.size ≤ gb291)); have GE291 := Aside0.mk ((by rw [hg]; exact (below_size (bS1 HB.out GE290.out)) : w.heap.size ≤ gb291)); replace HB := Aside0.mk (below_step (bS1 HB.out GE290.out) hb); have NB290_291 := Aside0.mk ((by rw [hg]; exact Nat.ne_of_lt (blk_lt (g := gb290) (o := .cells #[.slice A1_0 l1_0.length c1_0, .slice A1_1 l1_1.length c1_1] 24 (0, 0)) (kU BK290.out)) : gb290 ≠ gb291)); have NB291_290 := Aside0.mk ((by rw [hg]; exact Nat.ne_of_gt (blk_lt (g := gb290) (o := .cells #[.slice A1_0 l1_0.length c1_0, .slice A1_1 l1_1.length c1_1] 24 (0, 0)) (kU BK290.out)) : gb291 ≠ gb290)); replace BK290 := Aside0.mk (blk_below (g := gb290) (o := .cells #[.slice A1_0 l1_0.length c1_0, .slice A1_1 l1_1.length c1_1] 24 (0, 0)) (kU BK290.out) hb); clear hb hbox hg; have hnb15 := NB290_291.out; have hnc15 := NB291_290.out; have hcz16_0 : w14.cell? ⟨gb290, 0, none⟩ = some (.slice A1_0 l1_0.length c1_0) := (blk_cell BK290.out 0).trans rfl; have hcz16_1 : w14.cell? ⟨gb290, 1, none⟩ = some (.slice A1_1 l1_1.length c1_1) := (blk_cell BK290.out 1).trans rfl; have hfz16_0 := blk_frozen BK290.out 0; have hfz16_1 := blk_frozen BK290.out 1) | ((with_reducible refine gate_callee (f := 5) rfl ?_); refine goesL_ (some 21) rfl rfl Try.func5 (by kernel_rfl) rfl #[.agg #[.slice A1_0 l1_0.length c1_0, .slice A1_1 l1_1.length c1_1], .int .i64 1048576] rfl (by (try simp only [List.map_toArray, List.map_cons, List.map_nil]); first | done | rfl | (simp only [List.length_drop, List.length_take]; rfl)) ?_; (with_reducible refine (laws_szArray.calls _ _ l1_0 _ _ l1_1 1048576 t292 _ ?side1 ?side2 ?side3 ?side4 A4.out).mono ?_); (case side1 => exact cU (Kd.C_below HR1_0.out HB.out)); (case side2 => exact HC1_0.out); (case side3 => exact cU (Kd.C_below HR1_1.out HB.out)); (case side4 => exact HC1_1.out); rintro e w17 ⟨rfl, hb⟩; refine ⟨_, rfl, ?_⟩; replace BK290 := Aside0.mk (blk_below (g := gb290) (o := .cells #[.slice A1_0 l1_0.length c1_0, .slice A1_1 l1_1.length c1_1] 24 (0, 0)) (kU BK290.out) hb); replace BK291 := Aside0.mk (blk_below (g := gb291) (o := .cells #[.slice A2_0 l2_0.length c2_0, .slice A2_1 l2_1.length c2_1] 24 (0, 0)) (kU BK291.out) hb); replace HB := Aside0.mk (below_step (bS2 HB.out GE290.out GE291.out) hb); (try clear hb); (try clear hb2); (try clear hk); (try clear hi); have hcz18_0 : w17.cell? ⟨gb291, 0, none⟩ = some (.slice A2_0 l2_0.length c2_0) := (blk_cell BK291.out 0).trans rfl; have hcz18_1 : w17.cell? ⟨gb291, 1, none⟩ = some (.slice A2_1 l2_1.length c2_1) := (blk_cell BK291.out 1).trans rfl; have hfz18_0 := blk_frozen BK291.out 0; have hfz18_1 := blk_frozen BK291.out 1) | ((with_reducible refine gate_callee (f := 5) rfl ?_); refine goesL_ (some 26) rfl rfl Try.func5 (by kernel_rfl) rfl #[.agg #[.slice A2_0 l2_0.length c2_0, .slice A2_1 l2_1.length c2_1], .int .i64 t292] rfl (by (try simp only [List.map_toArray, List.map_cons, List.map_nil]); first | done | rfl | (simp only [List.length_drop, List.length_take]; rfl)) ?_; (with_reducible refine (laws_szArray.calls _ _ l2_0 _ _ l2_1 t292 t293 _ ?side1 ?side2 ?side3 ?side4 A11.out).mono ?_); (case side1 => exact cU (Kd.C_below HR2_0.out HB.out)); (case side2 => exact HC2_0.out); (case side3 => exact cU (Kd.C_below HR2_1.out HB.out)); (case side4 => exact HC2_1.out); rintro e w19 ⟨rfl, hb⟩; refine ⟨_, rfl, ?_⟩; replace BK290 := Aside0.mk (blk_below (g := gb290) (o := .cells #[.slice A1_0 l1_0.length c1_0, .slice A1_1 l1_1.length c1_1] 24 (0, 0)) (kU BK290.out) hb); replace BK291 := Aside0.mk (blk_below (g := gb291) (o := .cells #[.slice A2_0 l2_0.length c2_0, .slice A2_1 l2_1.length c2_1] 24 (0, 0)) (kU BK291.out) hb); replace HB := Aside0.mk (below_step (bS2 HB.out GE290.out GE291.out) hb); (try clear hb); (try clear hb2); (try clear hk); (try clear hi)))
   go_ret
   exact ⟨by first | rfl | (simp [errW_none, errW_some] <;> rfl) | (simp [*, errW_none, errW_some] <;> rfl), by repeat (first | (with_reducible first | exact HB.out | apply below_alloc | apply pw_below_drewN | apply below_drew1 | refine below_set ?_ GE290.out | refine below_set ?_ GE291.out) | exact HB.out)⟩
  ·
   rw [if_neg c12] at H
   have c12b0 : decide (t293 < 0) = false := decide_eq_false c12
   clear c12
   replace H := Option.bind_eq_some_iff.mp H
   obtain ⟨⟨t294, t297⟩, A200, H⟩ := H
   replace H : ((laws_toArray.f k l2_0 l2_1).bind fun bt300 => ((spec_EachTwo.f k a0 t294 t297 bt300.1 bt300.2).bind fun bt306 => ((laws_toArray.f k l1_0 l1_1).bind fun bt314 => ((laws_toArray.f k l2_0 l2_1).bind fun bt321 => ((impl_EachTwo.f k a0 bt314.1 bt314.2 bt321.1 bt321.2).bind fun bt328 => ((laws_eqArray.f k bt328.1 bt328.2.1 bt306.1 bt306.2.1).bind fun t336 => (if t336 = true then (laws_FnExactEachTwo.j0 k a0 bt306.2.2 bt328.2.2 (bt328.2.2 != bt306.2.2) l1_0 l1_1 l2_0 l2_1 bt306.1 bt306.2.1 bt314.1 bt314.2 bt321.1 bt321.2 bt328.1 bt328.2.1) else (laws_FnExactEachTwo.j0 k a0 bt306.2.2 bt328.2.2 true l1_0 l1_1 l2_0 l2_1 bt306.1 bt306.2.1 bt314.1 bt314.2 bt321.1 bt321.2 bt328.1 bt328.2.1)))))))) = some r := H
   have A20 := Aside0.mk A200
   clear A200
   replace H := Option.bind_eq_some_iff.mp H
   obtain ⟨⟨t300, t303⟩, A210, H⟩ := H
   replace H : ((spec_EachTwo.f k a0 t294 t297 t300 t303).bind fun bt306 => ((laws_toArray.f k l1_0 l1_1).bind fun bt314 => ((laws_toArray.f k l2_0 l2_1).bind fun bt321 => ((impl_EachTwo.f k a0 bt314.1 bt314.2 bt321.1 bt321.2).bind fun bt328 => ((laws_eqArray.f k bt328.1 bt328.2.1 bt306.1 bt306.2.1).bind fun t336 => (if t336 = true then (laws_FnExactEachTwo.j0 k a0 bt306.2.2 bt328.2.2 (bt328.2.2 != bt306.2.2) l1_0 l1_1 l2_0 l2_1 bt306.1 bt306.2.1 bt314.1 bt314.2 bt321.1 bt321.2 bt328.1 bt328.2.1) else (laws_FnExactEachTwo.j0 k a0 bt306.2.2 bt328.2.2 true l1_0 l1_1 l2_0 l2_1 bt306.1 bt306.2.1 bt314.1 bt314.2 bt321.1 bt321.2 bt328.1 bt328.2.1))))))) = some r := H
   have A21 := Aside0.mk A210
   clear A210
   replace H := Option.bind_eq_some_iff.mp H
   obtain ⟨⟨t306, t309, t312⟩, A220, H⟩ := H
   replace H : ((laws_toArray.f k l1_0 l1_1).bind fun bt314 => ((laws_toArray.f k l2_0 l2_1).bind fun bt321 => ((impl_EachTwo.f k a0 bt314.1 bt314.2 bt321.1 bt321.2).bind fun bt328 => ((laws_eqArray.f k bt328.1 bt328.2.1 t306 t309).bind fun t336 => (if t336 = true then (laws_FnExactEachTwo.j0 k a0 t312 bt328.2.2 (bt328.2.2 != t312) l1_0 l1_1 l2_0 l2_1 t306 t309 bt314.1 bt314.2 bt321.1 bt321.2 bt328.1 bt328.2.1) else (laws_FnExactEachTwo.j0 k a0 t312 bt328.2.2 true l1_0 l1_1 l2_0 l2_1 t306 t309 bt314.1 bt314.2 bt321.1 bt321.2 bt328.1 bt328.2.1)))))) = some r := H
   have A22 := Aside0.mk A220
   clear A220
   replace H := Option.bind_eq_some_iff.mp H
   obtain ⟨⟨t314, t317⟩, A230, H⟩ := H
   replace H : ((laws_toArray.f k l2_0 l2_1).bind fun bt321 => ((impl_EachTwo.f k a0 t314 t317 bt321.1 bt321.2).bind fun bt328 => ((laws_eqArray.f k bt328.1 bt328.2.1 t306 t309).bind fun t336 => (if t336 = true then (laws_FnExactEachTwo.j0 k a0 t312 bt328.2.2 (bt328.2.2 != t312) l1_0 l1_1 l2_0 l2_1 t306 t309 t314 t317 bt321.1 bt321.2 bt328.1 bt328.2.1) else (laws_FnExactEachTwo.j0 k a0 t312 bt328.2.2 true l1_0 l1_1 l2_0 l2_1 t306 t309 t314 t317 bt321.1 bt321.2 bt328.1 bt328.2.1))))) = some r := H
   have A23 := Aside0.mk A230
   clear A230
   replace H := Option.bind_eq_some_iff.mp H
   obtain ⟨⟨t321, t324⟩, A240, H⟩ := H
   replace H : ((impl_EachTwo.f k a0 t314 t317 t321 t324).bind fun bt328 => ((laws_eqArray.f k bt328.1 bt328.2.1 t306 t309).bind fun t336 => (if t336 = true then (laws_FnExactEachTwo.j0 k a0 t312 bt328.2.2 (bt328.2.2 != t312) l1_0 l1_1 l2_0 l2_1 t306 t309 t314 t317 t321 t324 bt328.1 bt328.2.1) else (laws_FnExactEachTwo.j0 k a0 t312 bt328.2.2 true l1_0 l1_1 l2_0 l2_1 t306 t309 t314 t317 t321 t324 bt328.1 bt328.2.1)))) = some r := H
   have A24 := Aside0.mk A240
   clear A240
   replace H := Option.bind_eq_some_iff.mp H
   obtain ⟨⟨t328, t331, t334⟩, A250, H⟩ := H
   replace H : ((laws_eqArray.f k t328 t331 t306 t309).bind fun t336 => (if t336 = true then (laws_FnExactEachTwo.j0 k a0 t312 t334 (t334 != t312) l1_0 l1_1 l2_0 l2_1 t306 t309 t314 t317 t321 t324 t328 t331) else (laws_FnExactEachTwo.j0 k a0 t312 t334 true l1_0 l1_1 l2_0 l2_1 t306 t309 t314 t317 t321 t324 t328 t331))) = some r := H
   have A25 := Aside0.mk A250
   clear A250
   have HC26 := Aside0.mk H
   clear H
   go_enter Try.func3, Try.ntmps3
   try go_wp2_with (first | ((with_reducible refine gate_dst (N := 4) rfl ?_); refine box_event ?hg (N := 4) ?hd (cs := #[.slice A1_0 l1_0.length c1_0, .slice A1_1 l1_1.length c1_1]) (t := 24) ?hr ?_; (case hd => rfl); (case hg => rfl); (case hr => first | (go_simp; done) | (go_simp; rfl)); intro gb290 hg w27 hbox hb; have BK290 := Aside0.mk (hbox); have GW290 := Aside0.mk ((by rw [hg]; exact (below_size (bU HB.out)) : w.heap.size ≤ gb290)); have GE290 := Aside0.mk ((by rw [hg]; exact (below_size (bU HB.out)) : w.heap.size ≤ gb290)); replace HB := Aside0.mk (below_step (bU HB.out) hb); clear hb hbox hg) | ((with_reducible refine gate_dst (N := 5) rfl ?_); refine box_event ?hg (N := 5) ?hd (cs := #[.slice A2_0 l2_0.length c2_0, .slice A2_1 l2_1.length c2_1]) (t := 24) ?hr ?_; (case hd => rfl); (case hg => rfl); (case hr => first | (go_simp; done) | (go_simp; rfl)); intro gb291 hg w28 hbox hb; have BK291 := Aside0.mk (hbox); have GW291 := Aside0.mk ((by rw [hg]; exact (below_size (bS1 HB.out GE290.out)) : w.heap.size ≤ gb291)); have GE291 := Aside0.mk ((by rw [hg]; exact (below_size (bS1 HB.out GE290.out)) : w.heap.size ≤ gb291)); replace HB := Aside0.mk (below_step (bS1 HB.out GE290.out) hb); have NB290_291 := Aside0.mk ((by rw [hg]; exact Nat.ne_of_lt (blk_lt (g := gb290) (o := .cells #[.slice A1_0 l1_0.length c1_0, .slice A1_1 l1_1.length c1_1] 24 (0, 0)) (kU BK290.out)) : gb290 ≠ gb291)); have NB291_290 := Aside0.mk ((by rw [hg]; exact Nat.ne_of_gt (blk_lt (g := gb290) (o := .cells #[.slice A1_0 l1_0.length c1_0, .slice A1_1 l1_1.length c1_1] 24 (0, 0)) (kU BK290.out)) : gb291 ≠ gb290)); replace BK290 := Aside0.mk (blk_below (g := gb290) (o := .cells #[.slice A1_0 l1_0.length c1_0, .slice A1_1 l1_1.length c1_1] 24 (0, 0)) (kU BK290.out) hb); clear hb hbox hg; have hnb29 := NB290_291.out; have hnc29 := NB291_290.out; have hcz30_0 : w28.cell? ⟨gb290, 0, none⟩ = some (.slice A1_0 l1_0.length c1_0) := (blk_cell BK290.out 0).trans rfl; have hcz30_1 : w28.cell? ⟨gb290, 1, none⟩ = some (.slice A1_1 l1_1.length c1_1) := (blk_cell BK290.out 1).trans rfl; have hfz30_0 := blk_frozen BK290.out 0; have hfz30_1 := blk_frozen BK290.out 1) | ((with_reducible refine gate_callee (f := 5) rfl ?_); refine goesL_ (some 21) rfl rfl Try.func5 (by kernel_rfl) rfl #[.agg #[.slice A1_0 l1_0.length c1_0, .slice A1_1 l1_1.length c1_1], .int .i64 1048576] rfl (by (try simp only [List.map_toArray, List.map_cons, List.map_nil]); first | done | rfl | (simp only [List.length_drop, List.length_take]; rfl)) ?_; (with_reducible refine (laws_szArray.calls _ _ l1_0 _ _ l1_1 1048576 t292 _ ?side1 ?side2 ?side3 ?side4 A4.out).mono ?_); (case side1 => exact cU (Kd.C_below HR1_0.out HB.out)); (case side2 => exact HC1_0.out); (case side3 => exact cU (Kd.C_below HR1_1.out HB.out)); (case side4 => exact HC1_1.out); rintro e w31 ⟨rfl, hb⟩; refine ⟨_, rfl, ?_⟩; replace BK290 := Aside0.mk (blk_below (g := gb290) (o := .cells #[.slice A1_0 l1_0.length c1_0, .slice A1_1 l1_1.length c1_1] 24 (0, 0)) (kU BK290.out) hb); replace BK291 := Aside0.mk (blk_below (g := gb291) (o := .cells #[.slice A2_0 l2_0.length c2_0, .slice A2_1 l2_1.length c2_1] 24 (0, 0)) (kU BK291.out) hb); replace HB := Aside0.mk (below_step (bS2 HB.out GE290.out GE291.out) hb); (try clear hb); (try clear hb2); (try clear hk); (try clear hi); have hcz32_0 : w31.cell? ⟨gb291, 0, none⟩ = some (.slice A2_0 l2_0.length c2_0) := (blk_cell BK291.out 0).trans rfl; have hcz32_1 : w31.cell? ⟨gb291, 1, none⟩ = some (.slice A2_1 l2_1.length c2_1) := (blk_cell BK291.out 1).trans rfl; have hfz32_0 := blk_frozen BK291.out 0; have hfz32_1 := blk_frozen BK291.out 1) | ((with_reducible refine gate_callee (f := 5) rfl ?_); refine goesL_ (some 26) rfl rfl Try.func5 (by kernel_rfl) rfl #[.agg #[.slice A2_0 l2_0.length c2_0, .slice A2_1 l2_1.length c2_1], .int .i64 t292] rfl (by (try simp only [List.map_toArray, List.map_cons, List.map_nil]); first | done | rfl | (simp only [List.length_drop, List.length_take]; rfl)) ?_; (with_reducible refine (laws_szArray.calls _ _ l2_0 _ _ l2_1 t292 t293 _ ?side1 ?side2 ?side3 ?side4 A11.out).mono ?_); (case side1 => exact cU (Kd.C_below HR2_0.out HB.out)); (case side2 => exact HC2_0.out); (case side3 => exact cU (Kd.C_below HR2_1.out HB.out)); (case side4 => exact HC2_1.out); rintro e w33 ⟨rfl, hb⟩; refine ⟨_, rfl, ?_⟩; replace BK290 := Aside0.mk (blk_below (g := gb290) (o := .cells #[.slice A1_0 l1_0.length c1_0, .slice A1_1 l1_1.length c1_1] 24 (0, 0)) (kU BK290.out) hb); replace BK291 := Aside0.mk (blk_below (g := gb291) (o := .cells #[.slice A2_0 l2_0.length c2_0, .slice A2_1 l2_1.length c2_1] 24 (0, 0)) (kU BK291.out) hb); replace HB := Aside0.mk (below_step (bS2 HB.out GE290.out GE291.out) hb); (try clear hb); (try clear hb2); (try clear hk); (try clear hi)))
   replace BK290 := Aside0.mk (blk_drew BK290.out)
   replace BK291 := Aside0.mk (blk_drew BK291.out)
   replace HB := Aside0.mk (below_drew1 HB.out)
   refine start_ (n := 12) (S := fun w' => w'.cell? ⟨gb290, 0, none⟩ = some (.slice A1_0 l1_0.length c1_0) ∧ w'.cell? ⟨gb290, 1, none⟩ = some (.slice A1_1 l1_1.length c1_1) ∧ w'.cell? ⟨gb291, 0, none⟩ = some (.slice A2_0 l2_0.length c2_0) ∧ w'.cell? ⟨gb291, 1, none⟩ = some (.slice A2_1 l2_1.length c2_1)) (ds := []) #[false, false, false, false, false, false, false, false, false, false, false, false] (by kernel_rfl) rfl rfl ⟨(blk_cell BK290.out 0).trans rfl, (blk_cell BK290.out 1).trans rfl, (blk_cell BK291.out 0).trans rfl, (blk_cell BK291.out 1).trans rfl⟩ (fun hHeld => ?_); refine with_tabW laws_FnExactEachTwo.tab8 laws_FnExactEachTwo.bits8 (fun HT_ HW_ => ?_)
   generalize w33.drew = w34 at BK290 BK291 HB hHeld ⊢
   refine pure_ (i := 0) (N := some 30) (v := ?_) (a' := ?_) #[true, false, false, false, false, false, false, false, false, false, false, false] rfl rfl (any_of HT_.out (by kernel_rfl)) (fun _ _ _ h => h) (Or.inl ⟨by rfl, ?_⟩) ?_ ?_
   rotate_left
   ·
    intro w'
    go_simp
    with_reducible rfl
   rotate_left
   ·
    simp only [Act.put, List.setIfInBounds_toArray, List.set_cons_zero, List.set_cons_succ, i64_w, i32_w]
    rfl
   refine take_ (i := 1) (N := some 31) (v := ?_) (a' := ?_) #[true, true, false, false, false, false, false, false, false, false, false, false] rfl rfl (take_ofW HT_.out HW_.out (by kernel_rfl)) (fun _ _ _ h => h) (Or.inl ⟨by rfl, ?_⟩) hHeld ?_ ?_
   rotate_left
   ·
    rintro w' ⟨s0, s1, s2, s3⟩
    go_simp
    with_reducible rfl
   rotate_left
   ·
    simp only [Act.put, List.setIfInBounds_toArray, List.set_cons_zero, List.set_cons_succ, i64_w, i32_w]
    rfl
   refine take_ (i := 3) (N := some 33) (v := ?_) (a' := ?_) #[true, true, false, true, false, false, false, false, false, false, false, false] rfl rfl (take_ofW HT_.out HW_.out (by kernel_rfl)) (fun _ _ _ h => h) (Or.inl ⟨by rfl, ?_⟩) hHeld ?_ ?_
   rotate_left
   ·
    rintro w' ⟨s0, s1, s2, s3⟩
    go_simp
    with_reducible rfl
   rotate_left
   ·
    simp only [Act.put, List.setIfInBounds_toArray, List.set_cons_zero, List.set_cons_succ, i64_w, i32_w]
    rfl
   refine join_ (σ := Value × Value × Value × Value × Value × Value × Nat) 2 #[true, true, true, true, true, true, true, true, true, true, false, false] (fun s_ => [(32, .agg #[s_.1, s_.2.1]), (34, .agg #[s_.2.2.1, s_.2.2.2.1]), (35, .tuple #[.agg #[s_.2.2.2.2.1, s_.2.2.2.2.2.1], .int .i64 t312]), (8, .pointer (some ⟨s_.2.2.2.2.2.2, 0, none⟩)), (29, .tuple #[.agg #[s_.2.2.2.2.1, s_.2.2.2.2.2.1], .int .i64 t312]), (36, .agg #[s_.2.2.2.2.1, s_.2.2.2.2.2.1]), (37, .int .i64 t312)]) (fun s_ w' => (w'.cell? ⟨gb290, 0, none⟩ = some (.slice A1_0 l1_0.length c1_0) ∧ w'.cell? ⟨gb290, 1, none⟩ = some (.slice A1_1 l1_1.length c1_1) ∧ w'.cell? ⟨gb291, 0, none⟩ = some (.slice A2_0 l2_0.length c2_0) ∧ w'.cell? ⟨gb291, 1, none⟩ = some (.slice A2_1 l2_1.length c2_1)) ∧ (Kd.R (Kd.int .i64) 3 w' w.heap.size (fun k_ => some k_ ≠ (s_.2.1 : Value).ownBlock ∧ some k_ ≠ (s_.2.2.1 : Value).ownBlock ∧ some k_ ≠ (s_.2.2.2.1 : Value).ownBlock ∧ some k_ ≠ (s_.2.2.2.2.1 : Value).ownBlock ∧ some k_ ≠ (s_.2.2.2.2.2.1 : Value).ownBlock) s_.1 t294) ∧ (Kd.R (Kd.int .i64) 3 w' w.heap.size (fun k_ => some k_ ≠ (s_.1 : Value).ownBlock ∧ some k_ ≠ (s_.2.2.1 : Value).ownBlock ∧ some k_ ≠ (s_.2.2.2.1 : Value).ownBlock ∧ some k_ ≠ (s_.2.2.2.2.1 : Value).ownBlock ∧ some k_ ≠ (s_.2.2.2.2.2.1 : Value).ownBlock) s_.2.1 t297) ∧ (Kd.R (Kd.int .i64) 3 w' w.heap.size (fun k_ => some k_ ≠ (s_.1 : Value).ownBlock ∧ some k_ ≠ (s_.2.1 : Value).ownBlock ∧ some k_ ≠ (s_.2.2.2.1 : Value).ownBlock ∧ some k_ ≠ (s_.2.2.2.2.1 : Value).ownBlock ∧ some k_ ≠ (s_.2.2.2.2.2.1 : Value).ownBlock) s_.2.2.1 t300) ∧ (Kd.R (Kd.int .i64) 3 w' w.heap.size (fun k_ => some k_ ≠ (s_.1 : Value).ownBlock ∧ some k_ ≠ (s_.2.1 : Value).ownBlock ∧ some k_ ≠ (s_.2.2.1 : Value).ownBlock ∧ some k_ ≠ (s_.2.2.2.2.1 : Value).ownBlock ∧ some k_ ≠ (s_.2.2.2.2.2.1 : Value).ownBlock) s_.2.2.2.1 t303) ∧ (Kd.R (Kd.int .i64) 3 w' w.heap.size (fun k_ => some k_ ≠ (s_.1 : Value).ownBlock ∧ some k_ ≠ (s_.2.1 : Value).ownBlock ∧ some k_ ≠ (s_.2.2.1 : Value).ownBlock ∧ some k_ ≠ (s_.2.2.2.1 : Value).ownBlock ∧ some k_ ≠ (s_.2.2.2.2.2.1 : Value).ownBlock) s_.2.2.2.2.1 t306) ∧ (Kd.R (Kd.int .i64) 3 w' w.heap.size (fun k_ => some k_ ≠ (s_.1 : Value).ownBlock ∧ some k_ ≠ (s_.2.1 : Value).ownBlock ∧ some k_ ≠ (s_.2.2.1 : Value).ownBlock ∧ some k_ ≠ (s_.2.2.2.1 : Value).ownBlock ∧ some k_ ≠ (s_.2.2.2.2.1 : Value).ownBlock) s_.2.2.2.2.2.1 t309) ∧ (w'.heap[gb290]? = some (.cells #[.slice A1_0 l1_0.length c1_0, .slice A1_1 l1_1.length c1_1] 24 (0, 0))) ∧ (w'.heap[gb291]? = some (.cells #[.slice A2_0 l2_0.length c2_0, .slice A2_1 l2_1.length c2_1] 24 (0, 0))) ∧ (w'.heap[s_.2.2.2.2.2.2]? = some (.cells #[.slice none 0 0, .slice none 0 0] 26 (0, 0))) ∧ (w.heap.size ≤ s_.2.2.2.2.2.2) ∧ (w.heap.size ≤ s_.2.2.2.2.2.2) ∧ (gb290 ≠ s_.2.2.2.2.2.2) ∧ (s_.2.2.2.2.2.2 ≠ gb290) ∧ (gb291 ≠ s_.2.2.2.2.2.2) ∧ (s_.2.2.2.2.2.2 ≠ gb291) ∧ (Below w.heap.size w w')) ?_ ?_
   rotate_left
   ·
    intro hCont
    refine two_ (i := 2) (j := 9) (Ni := some 32) (Nj := some 8) #[true, true, true, true, false, false, false, false, false, false, false, false] #[true, true, false, true, false, false, false, false, false, true, false, false] rfl rfl rfl rfl (two_of HT_.out (by kernel_rfl)) (by decide) (by decide) (fun K hK => ?_) (fun K hK => ?_)
    ·
     skip
     refine goes_ Try.func7 (by kernel_rfl) rfl #[.agg #[.slice A1_0 l1_0.length c1_0, .slice A1_1 l1_1.length c1_1]] (by rfl) rfl rfl (by (try simp only [List.map_toArray, List.map_cons, List.map_nil]); first | done | rfl | (simp only [List.length_drop, List.length_take]; rfl)) ?_
     with_reducible refine (laws_toArray.calls k _ _ l1_0 _ _ l1_1 t294 t297 _ ?side1 ?side2 ?side3 ?side4 A20.out).mono ?_
     (case side1 => exact cU (Kd.C_below HR1_0.out HB.out))
     (case side2 => exact HC1_0.out)
     (case side3 => exact cU (Kd.C_below HR1_1.out HB.out))
     (case side4 => exact HC1_1.out)
     rintro e w35 ⟨v295, v298, rfl, ho0, ho1, hb⟩
     refine ⟨_, rfl, ?_⟩
     have HO296 := Aside0.mk (Kd.R_lower ho0 (below_size (bS2 HB.out GE290.out GE291.out)))
     have HO299 := Aside0.mk (Kd.R_lower ho1 (below_size (bS2 HB.out GE290.out GE291.out)))
     replace BK290 := Aside0.mk (blk_below (g := gb290) (o := .cells #[.slice A1_0 l1_0.length c1_0, .slice A1_1 l1_1.length c1_1] 24 (0, 0)) (kU BK290.out) hb)
     replace BK291 := Aside0.mk (blk_below (g := gb291) (o := .cells #[.slice A2_0 l2_0.length c2_0, .slice A2_1 l2_1.length c2_1] 24 (0, 0)) (kU BK291.out) hb)
     replace HB := Aside0.mk (below_step (bS2 HB.out GE290.out GE291.out) hb)
     (try clear hb)
     (try clear hb2)
     (try clear hk)
     (try clear hi)
     (try clear ho0)
     (try clear ho1)
     refine hK.out _ _ ⟨(blk_cell BK290.out 0).trans rfl, (blk_cell BK290.out 1).trans rfl, (blk_cell BK291.out 0).trans rfl, (blk_cell BK291.out 1).trans rfl⟩ (fun hHeld => ?_)
     clear hK K
     refine norm_ (a' := ?_) ?_ ?_
     rotate_left
     ·
      show Act.put _ (some 32) _ = _
      simp only [Act.put, List.setIfInBounds_toArray, List.set_cons_zero, List.set_cons_succ, i64_w, i32_w]
      rfl
     refine two_ (i := 4) (j := 9) (Ni := some 34) (Nj := some 8) #[true, true, true, true, true, false, false, false, false, false, false, false] #[true, true, true, true, false, false, false, false, false, true, false, false] rfl rfl rfl rfl (two_of HT_.out (by kernel_rfl)) (by decide) (by decide) (fun K hK => ?_) (fun K hK => ?_)
     ·
      skip
      refine goes_ Try.func7 (by kernel_rfl) rfl #[.agg #[.slice A2_0 l2_0.length c2_0, .slice A2_1 l2_1.length c2_1]] (by rfl) rfl rfl (by (try simp only [List.map_toArray, List.map_cons, List.map_nil]); first | done | rfl | (simp only [List.length_drop, List.length_take]; rfl)) ?_
      with_reducible refine (laws_toArray.calls k _ _ l2_0 _ _ l2_1 t300 t303 _ ?side1 ?side2 ?side3 ?side4 A21.out).mono ?_
      (case side1 => exact cU (Kd.C_below HR2_0.out HB.out))
      (case side2 => exact HC2_0.out)
      (case side3 => exact cU (Kd.C_below HR2_1.out HB.out))
      (case side4 => exact HC2_1.out)
      rintro e w36 ⟨v301, v304, rfl, ho0, ho1, hb⟩
      refine ⟨_, rfl, ?_⟩
      have HO302 := Aside0.mk (Kd.R_lower (Kd.R_new' (Kd.R_new' ho0 (Kd.R_lt (RU HO296.out))) (Kd.R_lt (RU HO299.out))) (below_size (bS2 HB.out GE290.out GE291.out)))
      have HO305 := Aside0.mk (Kd.R_lower (Kd.R_new' (Kd.R_new' ho1 (Kd.R_lt (RU HO296.out))) (Kd.R_lt (RU HO299.out))) (below_size (bS2 HB.out GE290.out GE291.out)))
      replace HO296 := Aside0.mk (Kd.R_mono (Kd.R_told (Kd.R_told (Kd.R_old (RU HO296.out) hb) (Kd.R_base ho0)) (Kd.R_base ho1)) (fun _ h_ => h_.1))
      replace HO299 := Aside0.mk (Kd.R_mono (Kd.R_told (Kd.R_told (Kd.R_old (RU HO299.out) hb) (Kd.R_base ho0)) (Kd.R_base ho1)) (fun _ h_ => h_.1))
      replace BK290 := Aside0.mk (blk_below (g := gb290) (o := .cells #[.slice A1_0 l1_0.length c1_0, .slice A1_1 l1_1.length c1_1] 24 (0, 0)) (kU BK290.out) hb)
      replace BK291 := Aside0.mk (blk_below (g := gb291) (o := .cells #[.slice A2_0 l2_0.length c2_0, .slice A2_1 l2_1.length c2_1] 24 (0, 0)) (kU BK291.out) hb)
      replace HB := Aside0.mk (below_step (bS2 HB.out GE290.out GE291.out) hb)
      (try clear hb)
      (try clear hb2)
      (try clear hk)
      (try clear hi)
      (try clear ho0)
      (try clear ho1)
      obtain ⟨Ao37, co37, eo37⟩ := Kd.R_slice HO296.out
      (first | subst eo37 | (injection eo37 with f1_ f2_ f3_; have f4_ := f1_.symm; have f5_ := f3_.symm; clear f1_ f2_ f3_; subst f4_; subst f5_))
      obtain ⟨Ao38, co38, eo38⟩ := Kd.R_slice HO299.out
      (first | subst eo38 | (injection eo38 with f1_ f2_ f3_; have f4_ := f1_.symm; have f5_ := f3_.symm; clear f1_ f2_ f3_; subst f4_; subst f5_))
      obtain ⟨Ao39, co39, eo39⟩ := Kd.R_slice HO302.out
      (first | subst eo39 | (injection eo39 with f1_ f2_ f3_; have f4_ := f1_.symm; have f5_ := f3_.symm; clear f1_ f2_ f3_; subst f4_; subst f5_))
      obtain ⟨Ao40, co40, eo40⟩ := Kd.R_slice HO305.out
      (first | subst eo40 | (injection eo40 with f1_ f2_ f3_; have f4_ := f1_.symm; have f5_ := f3_.symm; clear f1_ f2_ f3_; subst f4_; subst f5_))
      refine hK.out _ _ ⟨(blk_cell BK290.out 0).trans rfl, (blk_cell BK290.out 1).trans rfl, (blk_cell BK291.out 0).trans rfl, (blk_cell BK291.out 1).trans rfl⟩ (fun hHeld => ?_)
      clear hK K
      refine norm_ (a' := ?_) ?_ ?_
      rotate_left
      ·
       show Act.put _ (some 34) _ = _
       simp only [Act.put, List.setIfInBounds_toArray, List.set_cons_zero, List.set_cons_succ, i64_w, i32_w]
       rfl
      refine two_ (i := 5) (j := 9) (Ni := some 35) (Nj := some 8) #[true, true, true, true, true, true, false, false, false, false, false, false] #[true, true, true, true, true, false, false, false, false, true, false, false] rfl rfl rfl rfl (two_of HT_.out (by kernel_rfl)) (by decide) (by decide) (fun K hK => ?_) (fun K hK => ?_)
      ·
       skip
       refine goes_ Try.func6 (by kernel_rfl) rfl #[.int .i64 a0, .agg #[.slice Ao37 t294.length co37, .slice Ao38 t297.length co38], .agg #[.slice Ao39 t300.length co39, .slice Ao40 t303.length co40]] (by rfl) rfl rfl (by (try simp only [List.map_toArray, List.map_cons, List.map_nil]); first | done | rfl | (simp only [List.length_drop, List.length_take]; rfl)) ?_
       with_reducible refine (spec_EachTwo.calls k a0 _ _ t294 _ _ t297 _ _ t300 _ _ t303 t306 t309 t312 _ ?side1 ?side2 ?side3 ?side4 ?side5 ?side6 ?side7 ?side8 A22.out).mono ?_
       (case side1 => exact cU (Kd.R_reads' HO296.out).2.2)
       (case side2 => exact (Kd.R_reads' HO296.out).2.1)
       (case side3 => exact cU (Kd.R_reads' HO299.out).2.2)
       (case side4 => exact (Kd.R_reads' HO299.out).2.1)
       (case side5 => exact cU (Kd.R_reads' HO302.out).2.2)
       (case side6 => exact (Kd.R_reads' HO302.out).2.1)
       (case side7 => exact cU (Kd.R_reads' HO305.out).2.2)
       (case side8 => exact (Kd.R_reads' HO305.out).2.1)
       rintro e w41 ⟨v307, v310, rfl, ho0, ho1, hb⟩
       refine ⟨_, rfl, ?_⟩
       have HO308 := Aside0.mk (Kd.R_lower (Kd.R_new' (Kd.R_new' (Kd.R_new' (Kd.R_new' ho0 (Kd.R_lt (RU HO296.out))) (Kd.R_lt (RU HO299.out))) (Kd.R_lt (RU HO302.out))) (Kd.R_lt (RU HO305.out))) (below_size (bS2 HB.out GE290.out GE291.out)))
       have HO311 := Aside0.mk (Kd.R_lower (Kd.R_new' (Kd.R_new' (Kd.R_new' (Kd.R_new' ho1 (Kd.R_lt (RU HO296.out))) (Kd.R_lt (RU HO299.out))) (Kd.R_lt (RU HO302.out))) (Kd.R_lt (RU HO305.out))) (below_size (bS2 HB.out GE290.out GE291.out)))
       replace HO296 := Aside0.mk (Kd.R_mono (Kd.R_told (Kd.R_told (Kd.R_old (RU HO296.out) hb) (Kd.R_base ho0)) (Kd.R_base ho1)) (fun _ h_ => h_.1))
       replace HO299 := Aside0.mk (Kd.R_mono (Kd.R_told (Kd.R_told (Kd.R_old (RU HO299.out) hb) (Kd.R_base ho0)) (Kd.R_base ho1)) (fun _ h_ => h_.1))
       replace HO302 := Aside0.mk (Kd.R_mono (Kd.R_told (Kd.R_told (Kd.R_old (RU HO302.out) hb) (Kd.R_base ho0)) (Kd.R_base ho1)) (fun _ h_ => h_.1))
       replace HO305 := Aside0.mk (Kd.R_mono (Kd.R_told (Kd.R_told (Kd.R_old (RU HO305.out) hb) (Kd.R_base ho0)) (Kd.R_base ho1)) (fun _ h_ => h_.1))
       replace BK290 := Aside0.mk (blk_below (g := gb290) (o := .cells #[.slice A1_0 l1_0.length c1_0, .slice A1_1 l1_1.length c1_1] 24 (0, 0)) (kU BK290.out) hb)
       replace BK291 := Aside0.mk (blk_below (g := gb291) (o := .cells #[.slice A2_0 l2_0.length c2_0, .slice A2_1 l2_1.length c2_1] 24 (0, 0)) (kU BK291.out) hb)
       replace HB := Aside0.mk (below_step (bS2 HB.out GE290.out GE291.out) hb)
       (try clear hb)
       (try clear hb2)
       (try clear hk)
       (try clear hi)
       (try clear ho0)
       (try clear ho1)
       refine hK.out _ _ ⟨(blk_cell BK290.out 0).trans rfl, (blk_cell BK290.out 1).trans rfl, (blk_cell BK291.out 0).trans rfl, (blk_cell BK291.out 1).trans rfl⟩ (fun hHeld => ?_)
       clear hK K
       refine norm_ (a' := ?_) ?_ ?_
       rotate_left
       ·
        show Act.put _ (some 35) _ = _
        simp only [Act.put, List.setIfInBounds_toArray, List.set_cons_zero, List.set_cons_succ, i64_w, i32_w]
        rfl
       refine pure_ (i := 6) (N := some 29) (v := ?_) (a' := ?_) #[true, true, true, true, true, true, true, false, false, false, false, false] rfl rfl (any_of HT_.out (by kernel_rfl)) (fun _ _ _ h => h) (Or.inl ⟨by rfl, ?_⟩) ?_ ?_
       rotate_left
       ·
        intro w'
        go_simp
        with_reducible rfl
       rotate_left
       ·
        simp only [Act.put, List.setIfInBounds_toArray, List.set_cons_zero, List.set_cons_succ, i64_w, i32_w]
        rfl
       refine pure_ (i := 7) (N := some 36) (v := ?_) (a' := ?_) #[true, true, true, true, true, true, true, true, false, false, false, false] rfl rfl (any_of HT_.out (by kernel_rfl)) (fun _ _ _ h => h) (Or.inl ⟨by rfl, ?_⟩) ?_ ?_
       rotate_left
       ·
        intro w'
        go_simp
        with_reducible rfl
       rotate_left
       ·
        simp only [Act.put, List.setIfInBounds_toArray, List.set_cons_zero, List.set_cons_succ, i64_w, i32_w]
        rfl
       refine pure_ (i := 8) (N := some 37) (v := ?_) (a' := ?_) #[true, true, true, true, true, true, true, true, true, false, false, false] rfl rfl (any_of HT_.out (by kernel_rfl)) (fun _ _ _ h => h) (Or.inl ⟨by rfl, ?_⟩) ?_ ?_
       rotate_left
       ·
        intro w'
        go_simp
        with_reducible rfl
       rotate_left
       ·
        simp only [Act.put, List.setIfInBounds_toArray, List.set_cons_zero, List.set_cons_succ, i64_w, i32_w]
        rfl
       refine one_ (i := 9) (N := some 8) #[true, true, true, true, true, true, true, true, true, true, false, false] rfl rfl (one_of HT_.out (by kernel_rfl)) (by decide) (fun K hK => ?_)
       refine box_step ?hg (N := 8) ?hd (cs := #[.slice none 0 0, .slice none 0 0]) (t := 26) ?hr ?_; (case hd => rfl); (case hg => rfl); (case hr => first | (go_simp; done) | (go_simp; rfl))
       intro gb313 hg w42 hbox hb
       replace HO296 := Aside0.mk (Kd.R_below (RU HO296.out) hb)
       replace HO299 := Aside0.mk (Kd.R_below (RU HO299.out) hb)
       replace HO302 := Aside0.mk (Kd.R_below (RU HO302.out) hb)
       replace HO305 := Aside0.mk (Kd.R_below (RU HO305.out) hb)
       replace HO308 := Aside0.mk (Kd.R_below (RU HO308.out) hb)
       replace HO311 := Aside0.mk (Kd.R_below (RU HO311.out) hb)
       have BK313 := Aside0.mk (hbox)
       have GW313 := Aside0.mk ((by rw [hg]; exact (below_size (bS2 HB.out GE290.out GE291.out)) : w.heap.size ≤ gb313))
       have GE313 := Aside0.mk ((by rw [hg]; exact (below_size (bS2 HB.out GE290.out GE291.out)) : w.heap.size ≤ gb313))
       replace HB := Aside0.mk (below_step (bS2 HB.out GE290.out GE291.out) hb)
       have NB290_313 := Aside0.mk ((by rw [hg]; exact Nat.ne_of_lt (blk_lt (g := gb290) (o := .cells #[.slice A1_0 l1_0.length c1_0, .slice A1_1 l1_1.length c1_1] 24 (0, 0)) (kU BK290.out)) : gb290 ≠ gb313))
       have NB313_290 := Aside0.mk ((by rw [hg]; exact Nat.ne_of_gt (blk_lt (g := gb290) (o := .cells #[.slice A1_0 l1_0.length c1_0, .slice A1_1 l1_1.length c1_1] 24 (0, 0)) (kU BK290.out)) : gb313 ≠ gb290))
       replace BK290 := Aside0.mk (blk_below (g := gb290) (o := .cells #[.slice A1_0 l1_0.length c1_0, .slice A1_1 l1_1.length c1_1] 24 (0, 0)) (kU BK290.out) hb)
       have NB291_313 := Aside0.mk ((by rw [hg]; exact Nat.ne_of_lt (blk_lt (g := gb291) (o := .cells #[.slice A2_0 l2_0.length c2_0, .slice A2_1 l2_1.length c2_1] 24 (0, 0)) (kU BK291.out)) : gb291 ≠ gb313))
       have NB313_291 := Aside0.mk ((by rw [hg]; exact Nat.ne_of_gt (blk_lt (g := gb291) (o := .cells #[.slice A2_0 l2_0.length c2_0, .slice A2_1 l2_1.length c2_1] 24 (0, 0)) (kU BK291.out)) : gb313 ≠ gb291))
       replace BK291 := Aside0.mk (blk_below (g := gb291) (o := .cells #[.slice A2_0 l2_0.length c2_0, .slice A2_1 l2_1.length c2_1] 24 (0, 0)) (kU BK291.out) hb)
       clear hb hbox hg
       refine hK.out _ _ ⟨(blk_cell BK290.out 0).trans rfl, (blk_cell BK290.out 1).trans rfl, (blk_cell BK291.out 0).trans rfl, (blk_cell BK291.out 1).trans rfl⟩ (fun hHeld => ?_)
       clear hK K
       refine norm_ (a' := ?_) ?_ ?_
       rotate_left
       ·
        show Act.put _ (some 8) _ = _
        simp only [Act.put, List.setIfInBounds_toArray, List.set_cons_zero, List.set_cons_succ, i64_w, i32_w]
        rfl
       exact norm_ (by simp only [putAll, Act.put, List.setIfInBounds_toArray, List.set_cons_zero, List.set_cons_succ]) (hCont (.slice Ao37 t294.length co37, .slice Ao38 t297.length co38, .slice Ao39 t300.length co39, .slice Ao40 t303.length co40, v307, v310, gb313) _ ⟨hHeld, (by (with_reducible repeat (first | apply Kd.R_alloc | apply Kd.R_drewN | apply Kd.R_drew)); exact Kd.R_mono HO296.out (fun _ hk => ⟨hk.1.1.1.1, ⟨hk.1.1.1.2, ⟨hk.1.1.2, ⟨hk.1.2, hk.2⟩⟩⟩⟩)), (by (with_reducible repeat (first | apply Kd.R_alloc | apply Kd.R_drewN | apply Kd.R_drew)); exact Kd.R_mono HO299.out (fun _ hk => ⟨hk.1.1.1.1, ⟨hk.1.1.1.2, ⟨hk.1.1.2, ⟨hk.1.2, hk.2⟩⟩⟩⟩)), (by (with_reducible repeat (first | apply Kd.R_alloc | apply Kd.R_drewN | apply Kd.R_drew)); exact Kd.R_mono HO302.out (fun _ hk => ⟨hk.1.1.1.2, ⟨hk.1.1.2, ⟨hk.1.1.1.1, ⟨hk.1.2, hk.2⟩⟩⟩⟩)), (by (with_reducible repeat (first | apply Kd.R_alloc | apply Kd.R_drewN | apply Kd.R_drew)); exact Kd.R_mono HO305.out (fun _ hk => ⟨hk.1.1.1.2, ⟨hk.1.1.2, ⟨hk.1.1.1.1, ⟨hk.1.2, hk.2⟩⟩⟩⟩)), (by (with_reducible repeat (first | apply Kd.R_alloc | apply Kd.R_drewN | apply Kd.R_drew)); exact Kd.R_mono HO308.out (fun _ hk => ⟨hk.1.1.1.2, ⟨hk.1.1.2, ⟨hk.1.2, ⟨hk.2, hk.1.1.1.1⟩⟩⟩⟩)), (by (with_reducible repeat (first | apply Kd.R_alloc | apply Kd.R_drewN | apply Kd.R_drew)); exact Kd.R_mono HO311.out (fun _ hk => ⟨hk.1.1.1.2, ⟨hk.1.1.2, ⟨hk.1.2, ⟨hk.2, hk.1.1.1.1⟩⟩⟩⟩)), (kU BK290.out), (kU BK291.out), (kU BK313.out), GW313.out, GE313.out, NB290_313.out, NB313_290.out, NB291_313.out, NB313_291.out, (bS3 HB.out GE290.out GE291.out GE313.out)⟩)
      ·
       skip
       refine box_step ?hg (N := 8) ?hd (cs := #[.slice none 0 0, .slice none 0 0]) (t := 26) ?hr ?_; (case hd => rfl); (case hg => rfl); (case hr => first | (go_simp; done) | (go_simp; rfl))
       intro gb313 hg w37 hbox hb
       replace HO296 := Aside0.mk (Kd.R_below (RU HO296.out) hb)
       replace HO299 := Aside0.mk (Kd.R_below (RU HO299.out) hb)
       replace HO302 := Aside0.mk (Kd.R_below (RU HO302.out) hb)
       replace HO305 := Aside0.mk (Kd.R_below (RU HO305.out) hb)
       have BK313 := Aside0.mk (hbox)
       have GW313 := Aside0.mk ((by rw [hg]; exact (below_size (bS2 HB.out GE290.out GE291.out)) : w.heap.size ≤ gb313))
       have GE313 := Aside0.mk ((by rw [hg]; exact (below_size (bS2 HB.out GE290.out GE291.out)) : w.heap.size ≤ gb313))
       replace HB := Aside0.mk (below_step (bS2 HB.out GE290.out GE291.out) hb)
       have NB290_313 := Aside0.mk ((by rw [hg]; exact Nat.ne_of_lt (blk_lt (g := gb290) (o := .cells #[.slice A1_0 l1_0.length c1_0, .slice A1_1 l1_1.length c1_1] 24 (0, 0)) (kU BK290.out)) : gb290 ≠ gb313))
       have NB313_290 := Aside0.mk ((by rw [hg]; exact Nat.ne_of_gt (blk_lt (g := gb290) (o := .cells #[.slice A1_0 l1_0.length c1_0, .slice A1_1 l1_1.length c1_1] 24 (0, 0)) (kU BK290.out)) : gb313 ≠ gb290))
       replace BK290 := Aside0.mk (blk_below (g := gb290) (o := .cells #[.slice A1_0 l1_0.length c1_0, .slice A1_1 l1_1.length c1_1] 24 (0, 0)) (kU BK290.out) hb)
       have NB291_313 := Aside0.mk ((by rw [hg]; exact Nat.ne_of_lt (blk_lt (g := gb291) (o := .cells #[.slice A2_0 l2_0.length c2_0, .slice A2_1 l2_1.length c2_1] 24 (0, 0)) (kU BK291.out)) : gb291 ≠ gb313))
       have NB313_291 := Aside0.mk ((by rw [hg]; exact Nat.ne_of_gt (blk_lt (g := gb291) (o := .cells #[.slice A2_0 l2_0.length c2_0, .slice A2_1 l2_1.length c2_1] 24 (0, 0)) (kU BK291.out)) : gb313 ≠ gb291))
       replace BK291 := Aside0.mk (blk_below (g := gb291) (o := .cells #[.slice A2_0 l2_0.length c2_0, .slice A2_1 l2_1.length c2_1] 24 (0, 0)) (kU BK291.out) hb)
       clear hb hbox hg
       obtain ⟨Ao38, co38, eo38⟩ := Kd.R_slice HO296.out
       (first | subst eo38 | (injection eo38 with f1_ f2_ f3_; have f4_ := f1_.symm; have f5_ := f3_.symm; clear f1_ f2_ f3_; subst f4_; subst f5_))
       obtain ⟨Ao39, co39, eo39⟩ := Kd.R_slice HO299.out
       (first | subst eo39 | (injection eo39 with f1_ f2_ f3_; have f4_ := f1_.symm; have f5_ := f3_.symm; clear f1_ f2_ f3_; subst f4_; subst f5_))
       obtain ⟨Ao40, co40, eo40⟩ := Kd.R_slice HO302.out
       (first | subst eo40 | (injection eo40 with f1_ f2_ f3_; have f4_ := f1_.symm; have f5_ := f3_.symm; clear f1_ f2_ f3_; subst f4_; subst f5_))
       obtain ⟨Ao41, co41, eo41⟩ := Kd.R_slice HO305.out
       (first | subst eo41 | (injection eo41 with f1_ f2_ f3_; have f4_ := f1_.symm; have f5_ := f3_.symm; clear f1_ f2_ f3_; subst f4_; subst f5_))
       refine hK.out _ _ ⟨(blk_cell BK290.out 0).trans rfl, (blk_cell BK290.out 1).trans rfl, (blk_cell BK291.out 0).trans rfl, (blk_cell BK291.out 1).trans rfl⟩ (fun hHeld => ?_)
       clear hK K
       refine norm_ (a' := ?_) ?_ ?_
       rotate_left
       ·
        show Act.put _ (some 8) _ = _
        simp only [Act.put, List.setIfInBounds_toArray, List.set_cons_zero, List.set_cons_succ, i64_w, i32_w]
        rfl
       refine one_ (i := 5) (N := some 35) #[true, true, true, true, true, true, false, false, false, true, false, false] rfl rfl (one_of HT_.out (by kernel_rfl)) (by decide) (fun K hK => ?_)
       refine goes_ Try.func6 (by kernel_rfl) rfl #[.int .i64 a0, .agg #[.slice Ao38 t294.length co38, .slice Ao39 t297.length co39], .agg #[.slice Ao40 t300.length co40, .slice Ao41 t303.length co41]] (by rfl) rfl rfl (by (try simp only [List.map_toArray, List.map_cons, List.map_nil]); first | done | rfl | (simp only [List.length_drop, List.length_take]; rfl)) ?_
       with_reducible refine (spec_EachTwo.calls k a0 _ _ t294 _ _ t297 _ _ t300 _ _ t303 t306 t309 t312 _ ?side1 ?side2 ?side3 ?side4 ?side5 ?side6 ?side7 ?side8 A22.out).mono ?_
       (case side1 => exact cU (Kd.R_reads' HO296.out).2.2)
       (case side2 => exact (Kd.R_reads' HO296.out).2.1)
       (case side3 => exact cU (Kd.R_reads' HO299.out).2.2)
       (case side4 => exact (Kd.R_reads' HO299.out).2.1)
       (case side5 => exact cU (Kd.R_reads' HO302.out).2.2)
       (case side6 => exact (Kd.R_reads' HO302.out).2.1)
       (case side7 => exact cU (Kd.R_reads' HO305.out).2.2)
       (case side8 => exact (Kd.R_reads' HO305.out).2.1)
       rintro e w42 ⟨v307, v310, rfl, ho0, ho1, hb⟩
       refine ⟨_, rfl, ?_⟩
       have HO308 := Aside0.mk (Kd.R_lower (Kd.R_new' (Kd.R_new' (Kd.R_new' (Kd.R_new' ho0 (Kd.R_lt (RU HO296.out))) (Kd.R_lt (RU HO299.out))) (Kd.R_lt (RU HO302.out))) (Kd.R_lt (RU HO305.out))) (below_size (bS3 HB.out GE290.out GE291.out GE313.out)))
       have HO311 := Aside0.mk (Kd.R_lower (Kd.R_new' (Kd.R_new' (Kd.R_new' (Kd.R_new' ho1 (Kd.R_lt (RU HO296.out))) (Kd.R_lt (RU HO299.out))) (Kd.R_lt (RU HO302.out))) (Kd.R_lt (RU HO305.out))) (below_size (bS3 HB.out GE290.out GE291.out GE313.out)))
       replace HO296 := Aside0.mk (Kd.R_mono (Kd.R_told (Kd.R_told (Kd.R_old (RU HO296.out) hb) (Kd.R_base ho0)) (Kd.R_base ho1)) (fun _ h_ => h_.1))
       replace HO299 := Aside0.mk (Kd.R_mono (Kd.R_told (Kd.R_told (Kd.R_old (RU HO299.out) hb) (Kd.R_base ho0)) (Kd.R_base ho1)) (fun _ h_ => h_.1))
       replace HO302 := Aside0.mk (Kd.R_mono (Kd.R_told (Kd.R_told (Kd.R_old (RU HO302.out) hb) (Kd.R_base ho0)) (Kd.R_base ho1)) (fun _ h_ => h_.1))
       replace HO305 := Aside0.mk (Kd.R_mono (Kd.R_told (Kd.R_told (Kd.R_old (RU HO305.out) hb) (Kd.R_base ho0)) (Kd.R_base ho1)) (fun _ h_ => h_.1))
       replace BK290 := Aside0.mk (blk_below (g := gb290) (o := .cells #[.slice A1_0 l1_0.length c1_0, .slice A1_1 l1_1.length c1_1] 24 (0, 0)) (kU BK290.out) hb)
       replace BK291 := Aside0.mk (blk_below (g := gb291) (o := .cells #[.slice A2_0 l2_0.length c2_0, .slice A2_1 l2_1.length c2_1] 24 (0, 0)) (kU BK291.out) hb)
       replace BK313 := Aside0.mk (blk_below (g := gb313) (o := .cells #[.slice none 0 0, .slice none 0 0] 26 (0, 0)) (kU BK313.out) hb)
       replace HB := Aside0.mk (below_step (bS3 HB.out GE290.out GE291.out GE313.out) hb)
       (try clear hb)
       (try clear hb2)
       (try clear hk)
       (try clear hi)
       (try clear ho0)
       (try clear ho1)
       refine hK.out _ _ ⟨(blk_cell BK290.out 0).trans rfl, (blk_cell BK290.out 1).trans rfl, (blk_cell BK291.out 0).trans rfl, (blk_cell BK291.out 1).trans rfl⟩ (fun hHeld => ?_)
       clear hK K
       refine norm_ (a' := ?_) ?_ ?_
       rotate_left
       ·
        show Act.put _ (some 35) _ = _
        simp only [Act.put, List.setIfInBounds_toArray, List.set_cons_zero, List.set_cons_succ, i64_w, i32_w]
        rfl
       refine pure_ (i := 6) (N := some 29) (v := ?_) (a' := ?_) #[true, true, true, true, true, true, true, false, false, true, false, false] rfl rfl (any_of HT_.out (by kernel_rfl)) (fun _ _ _ h => h) (Or.inl ⟨by rfl, ?_⟩) ?_ ?_
       rotate_left
       ·
        intro w'
        go_simp
        with_reducible rfl
       rotate_left
       ·
        simp only [Act.put, List.setIfInBounds_toArray, List.set_cons_zero, List.set_cons_succ, i64_w, i32_w]
        rfl
       refine pure_ (i := 7) (N := some 36) (v := ?_) (a' := ?_) #[true, true, true, true, true, true, true, true, false, true, false, false] rfl rfl (any_of HT_.out (by kernel_rfl)) (fun _ _ _ h => h) (Or.inl ⟨by rfl, ?_⟩) ?_ ?_
       rotate_left
       ·
        intro w'
        go_simp
        with_reducible rfl
       rotate_left
       ·
        simp only [Act.put, List.setIfInBounds_toArray, List.set_cons_zero, List.set_cons_succ, i64_w, i32_w]
        rfl
       refine pure_ (i := 8) (N := some 37) (v := ?_) (a' := ?_) #[true, true, true, true, true, true, true, true, true, true, false, false] rfl rfl (any_of HT_.out (by kernel_rfl)) (fun _ _ _ h => h) (Or.inl ⟨by rfl, ?_⟩) ?_ ?_
       rotate_left
       ·
        intro w'
        go_simp
        with_reducible rfl
       rotate_left
       ·
        simp only [Act.put, List.setIfInBounds_toArray, List.set_cons_zero, List.set_cons_succ, i64_w, i32_w]
        rfl
       exact norm_ (by simp only [putAll, Act.put, List.setIfInBounds_toArray, List.set_cons_zero, List.set_cons_succ]) (hCont (.slice Ao38 t294.length co38, .slice Ao39 t297.length co39, .slice Ao40 t300.length co40, .slice Ao41 t303.length co41, v307, v310, gb313) _ ⟨hHeld, (by (with_reducible repeat (first | apply Kd.R_alloc | apply Kd.R_drewN | apply Kd.R_drew)); exact Kd.R_mono HO296.out (fun _ hk => ⟨hk.1.1.1.1, ⟨hk.1.1.1.2, ⟨hk.1.1.2, ⟨hk.1.2, hk.2⟩⟩⟩⟩)), (by (with_reducible repeat (first | apply Kd.R_alloc | apply Kd.R_drewN | apply Kd.R_drew)); exact Kd.R_mono HO299.out (fun _ hk => ⟨hk.1.1.1.1, ⟨hk.1.1.1.2, ⟨hk.1.1.2, ⟨hk.1.2, hk.2⟩⟩⟩⟩)), (by (with_reducible repeat (first | apply Kd.R_alloc | apply Kd.R_drewN | apply Kd.R_drew)); exact Kd.R_mono HO302.out (fun _ hk => ⟨hk.1.1.1.2, ⟨hk.1.1.2, ⟨hk.1.1.1.1, ⟨hk.1.2, hk.2⟩⟩⟩⟩)), (by (with_reducible repeat (first | apply Kd.R_alloc | apply Kd.R_drewN | apply Kd.R_drew)); exact Kd.R_mono HO305.out (fun _ hk => ⟨hk.1.1.1.2, ⟨hk.1.1.2, ⟨hk.1.1.1.1, ⟨hk.1.2, hk.2⟩⟩⟩⟩)), (by (with_reducible repeat (first | apply Kd.R_alloc | apply Kd.R_drewN | apply Kd.R_drew)); exact Kd.R_mono HO308.out (fun _ hk => ⟨hk.1.1.1.2, ⟨hk.1.1.2, ⟨hk.1.2, ⟨hk.2, hk.1.1.1.1⟩⟩⟩⟩)), (by (with_reducible repeat (first | apply Kd.R_alloc | apply Kd.R_drewN | apply Kd.R_drew)); exact Kd.R_mono HO311.out (fun _ hk => ⟨hk.1.1.1.2, ⟨hk.1.1.2, ⟨hk.1.2, ⟨hk.2, hk.1.1.1.1⟩⟩⟩⟩)), (kU BK290.out), (kU BK291.out), (kU BK313.out), GW313.out, GE313.out, NB290_313.out, NB313_290.out, NB291_313.out, NB313_291.out, (bS3 HB.out GE290.out GE291.out GE313.out)⟩)
     ·
      skip
      refine box_step ?hg (N := 8) ?hd (cs := #[.slice none 0 0, .slice none 0 0]) (t := 26) ?hr ?_; (case hd => rfl); (case hg => rfl); (case hr => first | (go_simp; done) | (go_simp; rfl))
      intro gb313 hg w36 hbox hb
      replace HO296 := Aside0.mk (Kd.R_below (RU HO296.out) hb)
      replace HO299 := Aside0.mk (Kd.R_below (RU HO299.out) hb)
      have BK313 := Aside0.mk (hbox)
      have GW313 := Aside0.mk ((by rw [hg]; exact (below_size (bS2 HB.out GE290.out GE291.out)) : w.heap.size ≤ gb313))
      have GE313 := Aside0.mk ((by rw [hg]; exact (below_size (bS2 HB.out GE290.out GE291.out)) : w.heap.size ≤ gb313))
      replace HB := Aside0.mk (below_step (bS2 HB.out GE290.out GE291.out) hb)
      have NB290_313 := Aside0.mk ((by rw [hg]; exact Nat.ne_of_lt (blk_lt (g := gb290) (o := .cells #[.slice A1_0 l1_0.length c1_0, .slice A1_1 l1_1.length c1_1] 24 (0, 0)) (kU BK290.out)) : gb290 ≠ gb313))
      have NB313_290 := Aside0.mk ((by rw [hg]; exact Nat.ne_of_gt (blk_lt (g := gb290) (o := .cells #[.slice A1_0 l1_0.length c1_0, .slice A1_1 l1_1.length c1_1] 24 (0, 0)) (kU BK290.out)) : gb313 ≠ gb290))
      replace BK290 := Aside0.mk (blk_below (g := gb290) (o := .cells #[.slice A1_0 l1_0.length c1_0, .slice A1_1 l1_1.length c1_1] 24 (0, 0)) (kU BK290.out) hb)
      have NB291_313 := Aside0.mk ((by rw [hg]; exact Nat.ne_of_lt (blk_lt (g := gb291) (o := .cells #[.slice A2_0 l2_0.length c2_0, .slice A2_1 l2_1.length c2_1] 24 (0, 0)) (kU BK291.out)) : gb291 ≠ gb313))
      have NB313_291 := Aside0.mk ((by rw [hg]; exact Nat.ne_of_gt (blk_lt (g := gb291) (o := .cells #[.slice A2_0 l2_0.length c2_0, .slice A2_1 l2_1.length c2_1] 24 (0, 0)) (kU BK291.out)) : gb313 ≠ gb291))
      replace BK291 := Aside0.mk (blk_below (g := gb291) (o := .cells #[.slice A2_0 l2_0.length c2_0, .slice A2_1 l2_1.length c2_1] 24 (0, 0)) (kU BK291.out) hb)
      clear hb hbox hg
      refine hK.out _ _ ⟨(blk_cell BK290.out 0).trans rfl, (blk_cell BK290.out 1).trans rfl, (blk_cell BK291.out 0).trans rfl, (blk_cell BK291.out 1).trans rfl⟩ (fun hHeld => ?_)
      clear hK K
      refine norm_ (a' := ?_) ?_ ?_
      rotate_left
      ·
       show Act.put _ (some 8) _ = _
       simp only [Act.put, List.setIfInBounds_toArray, List.set_cons_zero, List.set_cons_succ, i64_w, i32_w]
       rfl
      refine one_ (i := 4) (N := some 34) #[true, true, true, true, true, false, false, false, false, true, false, false] rfl rfl (one_of HT_.out (by kernel_rfl)) (by decide) (fun K hK => ?_)
      refine goes_ Try.func7 (by kernel_rfl) rfl #[.agg #[.slice A2_0 l2_0.length c2_0, .slice A2_1 l2_1.length c2_1]] (by rfl) rfl rfl (by (try simp only [List.map_toArray, List.map_cons, List.map_nil]); first | done | rfl | (simp only [List.length_drop, List.length_take]; rfl)) ?_
      with_reducible refine (laws_toArray.calls k _ _ l2_0 _ _ l2_1 t300 t303 _ ?side1 ?side2 ?side3 ?side4 A21.out).mono ?_
      (case side1 => exact cU (Kd.C_below HR2_0.out HB.out))
      (case side2 => exact HC2_0.out)
      (case side3 => exact cU (Kd.C_below HR2_1.out HB.out))
      (case side4 => exact HC2_1.out)
      rintro e w37 ⟨v301, v304, rfl, ho0, ho1, hb⟩
      refine ⟨_, rfl, ?_⟩
      have HO302 := Aside0.mk (Kd.R_lower (Kd.R_new' (Kd.R_new' ho0 (Kd.R_lt (RU HO296.out))) (Kd.R_lt (RU HO299.out))) (below_size (bS3 HB.out GE290.out GE291.out GE313.out)))
      have HO305 := Aside0.mk (Kd.R_lower (Kd.R_new' (Kd.R_new' ho1 (Kd.R_lt (RU HO296.out))) (Kd.R_lt (RU HO299.out))) (below_size (bS3 HB.out GE290.out GE291.out GE313.out)))
      replace HO296 := Aside0.mk (Kd.R_mono (Kd.R_told (Kd.R_told (Kd.R_old (RU HO296.out) hb) (Kd.R_base ho0)) (Kd.R_base ho1)) (fun _ h_ => h_.1))
      replace HO299 := Aside0.mk (Kd.R_mono (Kd.R_told (Kd.R_told (Kd.R_old (RU HO299.out) hb) (Kd.R_base ho0)) (Kd.R_base ho1)) (fun _ h_ => h_.1))
      replace BK290 := Aside0.mk (blk_below (g := gb290) (o := .cells #[.slice A1_0 l1_0.length c1_0, .slice A1_1 l1_1.length c1_1] 24 (0, 0)) (kU BK290.out) hb)
      replace BK291 := Aside0.mk (blk_below (g := gb291) (o := .cells #[.slice A2_0 l2_0.length c2_0, .slice A2_1 l2_1.length c2_1] 24 (0, 0)) (kU BK291.out) hb)
      replace BK313 := Aside0.mk (blk_below (g := gb313) (o := .cells #[.slice none 0 0, .slice none 0 0] 26 (0, 0)) (kU BK313.out) hb)
      replace HB := Aside0.mk (below_step (bS3 HB.out GE290.out GE291.out GE313.out) hb)
      (try clear hb)
      (try clear hb2)
      (try clear hk)
      (try clear hi)
      (try clear ho0)
      (try clear ho1)
      obtain ⟨Ao38, co38, eo38⟩ := Kd.R_slice HO296.out
      (first | subst eo38 | (injection eo38 with f1_ f2_ f3_; have f4_ := f1_.symm; have f5_ := f3_.symm; clear f1_ f2_ f3_; subst f4_; subst f5_))
      obtain ⟨Ao39, co39, eo39⟩ := Kd.R_slice HO299.out
      (first | subst eo39 | (injection eo39 with f1_ f2_ f3_; have f4_ := f1_.symm; have f5_ := f3_.symm; clear f1_ f2_ f3_; subst f4_; subst f5_))
      obtain ⟨Ao40, co40, eo40⟩ := Kd.R_slice HO302.out
      (first | subst eo40 | (injection eo40 with f1_ f2_ f3_; have f4_ := f1_.symm; have f5_ := f3_.symm; clear f1_ f2_ f3_; subst f4_; subst f5_))
      obtain ⟨Ao41, co41, eo41⟩ := Kd.R_slice HO305.out
      (first | subst eo41 | (injection eo41 with f1_ f2_ f3_; have f4_ := f1_.symm; have f5_ := f3_.symm; clear f1_ f2_ f3_; subst f4_; subst f5_))
      refine hK.out _ _ ⟨(blk_cell BK290.out 0).trans rfl, (blk_cell BK290.out 1).trans rfl, (blk_cell BK291.out 0).trans rfl, (blk_cell BK291.out 1).trans rfl⟩ (fun hHeld => ?_)
      clear hK K
      refine norm_ (a' := ?_) ?_ ?_
      rotate_left
      ·
       show Act.put _ (some 34) _ = _
       simp only [Act.put, List.setIfInBounds_toArray, List.set_cons_zero, List.set_cons_succ, i64_w, i32_w]
       rfl
      refine one_ (i := 5) (N := some 35) #[true, true, true, true, true, true, false, false, false, true, false, false] rfl rfl (one_of HT_.out (by kernel_rfl)) (by decide) (fun K hK => ?_)
      refine goes_ Try.func6 (by kernel_rfl) rfl #[.int .i64 a0, .agg #[.slice Ao38 t294.length co38, .slice Ao39 t297.length co39], .agg #[.slice Ao40 t300.length co40, .slice Ao41 t303.length co41]] (by rfl) rfl rfl (by (try simp only [List.map_toArray, List.map_cons, List.map_nil]); first | done | rfl | (simp only [List.length_drop, List.length_take]; rfl)) ?_
      with_reducible refine (spec_EachTwo.calls k a0 _ _ t294 _ _ t297 _ _ t300 _ _ t303 t306 t309 t312 _ ?side1 ?side2 ?side3 ?side4 ?side5 ?side6 ?side7 ?side8 A22.out).mono ?_
      (case side1 => exact cU (Kd.R_reads' HO296.out).2.2)
      (case side2 => exact (Kd.R_reads' HO296.out).2.1)
      (case side3 => exact cU (Kd.R_reads' HO299.out).2.2)
      (case side4 => exact (Kd.R_reads' HO299.out).2.1)
      (case side5 => exact cU (Kd.R_reads' HO302.out).2.2)
      (case side6 => exact (Kd.R_reads' HO302.out).2.1)
      (case side7 => exact cU (Kd.R_reads' HO305.out).2.2)
      (case side8 => exact (Kd.R_reads' HO305.out).2.1)
      rintro e w42 ⟨v307, v310, rfl, ho0, ho1, hb⟩
      refine ⟨_, rfl, ?_⟩
      have HO308 := Aside0.mk (Kd.R_lower (Kd.R_new' (Kd.R_new' (Kd.R_new' (Kd.R_new' ho0 (Kd.R_lt (RU HO296.out))) (Kd.R_lt (RU HO299.out))) (Kd.R_lt (RU HO302.out))) (Kd.R_lt (RU HO305.out))) (below_size (bS3 HB.out GE290.out GE291.out GE313.out)))
      have HO311 := Aside0.mk (Kd.R_lower (Kd.R_new' (Kd.R_new' (Kd.R_new' (Kd.R_new' ho1 (Kd.R_lt (RU HO296.out))) (Kd.R_lt (RU HO299.out))) (Kd.R_lt (RU HO302.out))) (Kd.R_lt (RU HO305.out))) (below_size (bS3 HB.out GE290.out GE291.out GE313.out)))
      replace HO296 := Aside0.mk (Kd.R_mono (Kd.R_told (Kd.R_told (Kd.R_old (RU HO296.out) hb) (Kd.R_base ho0)) (Kd.R_base ho1)) (fun _ h_ => h_.1))
      replace HO299 := Aside0.mk (Kd.R_mono (Kd.R_told (Kd.R_told (Kd.R_old (RU HO299.out) hb) (Kd.R_base ho0)) (Kd.R_base ho1)) (fun _ h_ => h_.1))
      replace HO302 := Aside0.mk (Kd.R_mono (Kd.R_told (Kd.R_told (Kd.R_old (RU HO302.out) hb) (Kd.R_base ho0)) (Kd.R_base ho1)) (fun _ h_ => h_.1))
      replace HO305 := Aside0.mk (Kd.R_mono (Kd.R_told (Kd.R_told (Kd.R_old (RU HO305.out) hb) (Kd.R_base ho0)) (Kd.R_base ho1)) (fun _ h_ => h_.1))
      replace BK290 := Aside0.mk (blk_below (g := gb290) (o := .cells #[.slice A1_0 l1_0.length c1_0, .slice A1_1 l1_1.length c1_1] 24 (0, 0)) (kU BK290.out) hb)
      replace BK291 := Aside0.mk (blk_below (g := gb291) (o := .cells #[.slice A2_0 l2_0.length c2_0, .slice A2_1 l2_1.length c2_1] 24 (0, 0)) (kU BK291.out) hb)
      replace BK313 := Aside0.mk (blk_below (g := gb313) (o := .cells #[.slice none 0 0, .slice none 0 0] 26 (0, 0)) (kU BK313.out) hb)
      replace HB := Aside0.mk (below_step (bS3 HB.out GE290.out GE291.out GE313.out) hb)
      (try clear hb)
      (try clear hb2)
      (try clear hk)
      (try clear hi)
      (try clear ho0)
      (try clear ho1)
      refine hK.out _ _ ⟨(blk_cell BK290.out 0).trans rfl, (blk_cell BK290.out 1).trans rfl, (blk_cell BK291.out 0).trans rfl, (blk_cell BK291.out 1).trans rfl⟩ (fun hHeld => ?_)
      clear hK K
      refine norm_ (a' := ?_) ?_ ?_
      rotate_left
      ·
       show Act.put _ (some 35) _ = _
       simp only [Act.put, List.setIfInBounds_toArray, List.set_cons_zero, List.set_cons_succ, i64_w, i32_w]
       rfl
      refine pure_ (i := 6) (N := some 29) (v := ?_) (a' := ?_) #[true, true, true, true, true, true, true, false, false, true, false, false] rfl rfl (any_of HT_.out (by kernel_rfl)) (fun _ _ _ h => h) (Or.inl ⟨by rfl, ?_⟩) ?_ ?_
      rotate_left
      ·
       intro w'
       go_simp
       with_reducible rfl
      rotate_left
      ·
       simp only [Act.put, List.setIfInBounds_toArray, List.set_cons_zero, List.set_cons_succ, i64_w, i32_w]
       rfl
      refine pure_ (i := 7) (N := some 36) (v := ?_) (a' := ?_) #[true, true, true, true, true, true, true, true, false, true, false, false] rfl rfl (any_of HT_.out (by kernel_rfl)) (fun _ _ _ h => h) (Or.inl ⟨by rfl, ?_⟩) ?_ ?_
      rotate_left
      ·
       intro w'
       go_simp
       with_reducible rfl
      rotate_left
      ·
       simp only [Act.put, List.setIfInBounds_toArray, List.set_cons_zero, List.set_cons_succ, i64_w, i32_w]
       rfl
      refine pure_ (i := 8) (N := some 37) (v := ?_) (a' := ?_) #[true, true, true, true, true, true, true, true, true, true, false, false] rfl rfl (any_of HT_.out (by kernel_rfl)) (fun _ _ _ h => h) (Or.inl ⟨by rfl, ?_⟩) ?_ ?_
      rotate_left
      ·
       intro w'
       go_simp
       with_reducible rfl
      rotate_left
      ·
       simp only [Act.put, List.setIfInBounds_toArray, List.set_cons_zero, List.set_cons_succ, i64_w, i32_w]
       rfl
      exact norm_ (by simp only [putAll, Act.put, List.setIfInBounds_toArray, List.set_cons_zero, List.set_cons_succ]) (hCont (.slice Ao38 t294.length co38, .slice Ao39 t297.length co39, .slice Ao40 t300.length co40, .slice Ao41 t303.length co41, v307, v310, gb313) _ ⟨hHeld, (by (with_reducible repeat (first | apply Kd.R_alloc | apply Kd.R_drewN | apply Kd.R_drew)); exact Kd.R_mono HO296.out (fun _ hk => ⟨hk.1.1.1.1, ⟨hk.1.1.1.2, ⟨hk.1.1.2, ⟨hk.1.2, hk.2⟩⟩⟩⟩)), (by (with_reducible repeat (first | apply Kd.R_alloc | apply Kd.R_drewN | apply Kd.R_drew)); exact Kd.R_mono HO299.out (fun _ hk => ⟨hk.1.1.1.1, ⟨hk.1.1.1.2, ⟨hk.1.1.2, ⟨hk.1.2, hk.2⟩⟩⟩⟩)), (by (with_reducible repeat (first | apply Kd.R_alloc | apply Kd.R_drewN | apply Kd.R_drew)); exact Kd.R_mono HO302.out (fun _ hk => ⟨hk.1.1.1.2, ⟨hk.1.1.2, ⟨hk.1.1.1.1, ⟨hk.1.2, hk.2⟩⟩⟩⟩)), (by (with_reducible repeat (first | apply Kd.R_alloc | apply Kd.R_drewN | apply Kd.R_drew)); exact Kd.R_mono HO305.out (fun _ hk => ⟨hk.1.1.1.2, ⟨hk.1.1.2, ⟨hk.1.1.1.1, ⟨hk.1.2, hk.2⟩⟩⟩⟩)), (by (with_reducible repeat (first | apply Kd.R_alloc | apply Kd.R_drewN | apply Kd.R_drew)); exact Kd.R_mono HO308.out (fun _ hk => ⟨hk.1.1.1.2, ⟨hk.1.1.2, ⟨hk.1.2, ⟨hk.2, hk.1.1.1.1⟩⟩⟩⟩)), (by (with_reducible repeat (first | apply Kd.R_alloc | apply Kd.R_drewN | apply Kd.R_drew)); exact Kd.R_mono HO311.out (fun _ hk => ⟨hk.1.1.1.2, ⟨hk.1.1.2, ⟨hk.1.2, ⟨hk.2, hk.1.1.1.1⟩⟩⟩⟩)), (kU BK290.out), (kU BK291.out), (kU BK313.out), GW313.out, GE313.out, NB290_313.out, NB313_290.out, NB291_313.out, NB313_291.out, (bS3 HB.out GE290.out GE291.out GE313.out)⟩)
    ·
     skip
     refine box_step ?hg (N := 8) ?hd (cs := #[.slice none 0 0, .slice none 0 0]) (t := 26) ?hr ?_; (case hd => rfl); (case hg => rfl); (case hr => first | (go_simp; done) | (go_simp; rfl))
     intro gb313 hg w35 hbox hb
     have BK313 := Aside0.mk (hbox)
     have GW313 := Aside0.mk ((by rw [hg]; exact (below_size (bS2 HB.out GE290.out GE291.out)) : w.heap.size ≤ gb313))
     have GE313 := Aside0.mk ((by rw [hg]; exact (below_size (bS2 HB.out GE290.out GE291.out)) : w.heap.size ≤ gb313))
     replace HB := Aside0.mk (below_step (bS2 HB.out GE290.out GE291.out) hb)
     have NB290_313 := Aside0.mk ((by rw [hg]; exact Nat.ne_of_lt (blk_lt (g := gb290) (o := .cells #[.slice A1_0 l1_0.length c1_0, .slice A1_1 l1_1.length c1_1] 24 (0, 0)) (kU BK290.out)) : gb290 ≠ gb313))
     have NB313_290 := Aside0.mk ((by rw [hg]; exact Nat.ne_of_gt (blk_lt (g := gb290) (o := .cells #[.slice A1_0 l1_0.length c1_0, .slice A1_1 l1_1.length c1_1] 24 (0, 0)) (kU BK290.out)) : gb313 ≠ gb290))
     replace BK290 := Aside0.mk (blk_below (g := gb290) (o := .cells #[.slice A1_0 l1_0.length c1_0, .slice A1_1 l1_1.length c1_1] 24 (0, 0)) (kU BK290.out) hb)
     have NB291_313 := Aside0.mk ((by rw [hg]; exact Nat.ne_of_lt (blk_lt (g := gb291) (o := .cells #[.slice A2_0 l2_0.length c2_0, .slice A2_1 l2_1.length c2_1] 24 (0, 0)) (kU BK291.out)) : gb291 ≠ gb313))
     have NB313_291 := Aside0.mk ((by rw [hg]; exact Nat.ne_of_gt (blk_lt (g := gb291) (o := .cells #[.slice A2_0 l2_0.length c2_0, .slice A2_1 l2_1.length c2_1] 24 (0, 0)) (kU BK291.out)) : gb313 ≠ gb291))
     replace BK291 := Aside0.mk (blk_below (g := gb291) (o := .cells #[.slice A2_0 l2_0.length c2_0, .slice A2_1 l2_1.length c2_1] 24 (0, 0)) (kU BK291.out) hb)
     clear hb hbox hg
     refine hK.out _ _ ⟨(blk_cell BK290.out 0).trans rfl, (blk_cell BK290.out 1).trans rfl, (blk_cell BK291.out 0).trans rfl, (blk_cell BK291.out 1).trans rfl⟩ (fun hHeld => ?_)
     clear hK K
     refine norm_ (a' := ?_) ?_ ?_
     rotate_left
     ·
      show Act.put _ (some 8) _ = _
      simp only [Act.put, List.setIfInBounds_toArray, List.set_cons_zero, List.set_cons_succ, i64_w, i32_w]
      rfl
     refine one_ (i := 2) (N := some 32) #[true, true, true, true, false, false, false, false, false, true, false, false] rfl rfl (one_of HT_.out (by kernel_rfl)) (by decide) (fun K hK => ?_)
     refine goes_ Try.func7 (by kernel_rfl) rfl #[.agg #[.slice A1_0 l1_0.length c1_0, .slice A1_1 l1_1.length c1_1]] (by rfl) rfl rfl (by (try simp only [List.map_toArray, List.map_cons, List.map_nil]); first | done | rfl | (simp only [List.length_drop, List.length_take]; rfl)) ?_
     with_reducible refine (laws_toArray.calls k _ _ l1_0 _ _ l1_1 t294 t297 _ ?side1 ?side2 ?side3 ?side4 A20.out).mono ?_
     (case side1 => exact cU (Kd.C_below HR1_0.out HB.out))
     (case side2 => exact HC1_0.out)
     (case side3 => exact cU (Kd.C_below HR1_1.out HB.out))
     (case side4 => exact HC1_1.out)
     rintro e w36 ⟨v295, v298, rfl, ho0, ho1, hb⟩
     refine ⟨_, rfl, ?_⟩
     have HO296 := Aside0.mk (Kd.R_lower ho0 (below_size (bS3 HB.out GE290.out GE291.out GE313.out)))
     have HO299 := Aside0.mk (Kd.R_lower ho1 (below_size (bS3 HB.out GE290.out GE291.out GE313.out)))
     replace BK290 := Aside0.mk (blk_below (g := gb290) (o := .cells #[.slice A1_0 l1_0.length c1_0, .slice A1_1 l1_1.length c1_1] 24 (0, 0)) (kU BK290.out) hb)
     replace BK291 := Aside0.mk (blk_below (g := gb291) (o := .cells #[.slice A2_0 l2_0.length c2_0, .slice A2_1 l2_1.length c2_1] 24 (0, 0)) (kU BK291.out) hb)
     replace BK313 := Aside0.mk (blk_below (g := gb313) (o := .cells #[.slice none 0 0, .slice none 0 0] 26 (0, 0)) (kU BK313.out) hb)
     replace HB := Aside0.mk (below_step (bS3 HB.out GE290.out GE291.out GE313.out) hb)
     (try clear hb)
     (try clear hb2)
     (try clear hk)
     (try clear hi)
     (try clear ho0)
     (try clear ho1)
     refine hK.out _ _ ⟨(blk_cell BK290.out 0).trans rfl, (blk_cell BK290.out 1).trans rfl, (blk_cell BK291.out 0).trans rfl, (blk_cell BK291.out 1).trans rfl⟩ (fun hHeld => ?_)
     clear hK K
     refine norm_ (a' := ?_) ?_ ?_
     rotate_left
     ·
      show Act.put _ (some 32) _ = _
      simp only [Act.put, List.setIfInBounds_toArray, List.set_cons_zero, List.set_cons_succ, i64_w, i32_w]
      rfl
     refine one_ (i := 4) (N := some 34) #[true, true, true, true, true, false, false, false, false, true, false, false] rfl rfl (one_of HT_.out (by kernel_rfl)) (by decide) (fun K hK => ?_)
     refine goes_ Try.func7 (by kernel_rfl) rfl #[.agg #[.slice A2_0 l2_0.length c2_0, .slice A2_1 l2_1.length c2_1]] (by rfl) rfl rfl (by (try simp only [List.map_toArray, List.map_cons, List.map_nil]); first | done | rfl | (simp only [List.length_drop, List.length_take]; rfl)) ?_
     with_reducible refine (laws_toArray.calls k _ _ l2_0 _ _ l2_1 t300 t303 _ ?side1 ?side2 ?side3 ?side4 A21.out).mono ?_
     (case side1 => exact cU (Kd.C_below HR2_0.out HB.out))
     (case side2 => exact HC2_0.out)
     (case side3 => exact cU (Kd.C_below HR2_1.out HB.out))
     (case side4 => exact HC2_1.out)
     rintro e w37 ⟨v301, v304, rfl, ho0, ho1, hb⟩
     refine ⟨_, rfl, ?_⟩
     have HO302 := Aside0.mk (Kd.R_lower (Kd.R_new' (Kd.R_new' ho0 (Kd.R_lt (RU HO296.out))) (Kd.R_lt (RU HO299.out))) (below_size (bS3 HB.out GE290.out GE291.out GE313.out)))
     have HO305 := Aside0.mk (Kd.R_lower (Kd.R_new' (Kd.R_new' ho1 (Kd.R_lt (RU HO296.out))) (Kd.R_lt (RU HO299.out))) (below_size (bS3 HB.out GE290.out GE291.out GE313.out)))
     replace HO296 := Aside0.mk (Kd.R_mono (Kd.R_told (Kd.R_told (Kd.R_old (RU HO296.out) hb) (Kd.R_base ho0)) (Kd.R_base ho1)) (fun _ h_ => h_.1))
     replace HO299 := Aside0.mk (Kd.R_mono (Kd.R_told (Kd.R_told (Kd.R_old (RU HO299.out) hb) (Kd.R_base ho0)) (Kd.R_base ho1)) (fun _ h_ => h_.1))
     replace BK290 := Aside0.mk (blk_below (g := gb290) (o := .cells #[.slice A1_0 l1_0.length c1_0, .slice A1_1 l1_1.length c1_1] 24 (0, 0)) (kU BK290.out) hb)
     replace BK291 := Aside0.mk (blk_below (g := gb291) (o := .cells #[.slice A2_0 l2_0.length c2_0, .slice A2_1 l2_1.length c2_1] 24 (0, 0)) (kU BK291.out) hb)
     replace BK313 := Aside0.mk (blk_below (g := gb313) (o := .cells #[.slice none 0 0, .slice none 0 0] 26 (0, 0)) (kU BK313.out) hb)
     replace HB := Aside0.mk (below_step (bS3 HB.out GE290.out GE291.out GE313.out) hb)
     (try clear hb)
     (try clear hb2)
     (try clear hk)
     (try clear hi)
     (try clear ho0)
     (try clear ho1)
     obtain ⟨Ao38, co38, eo38⟩ := Kd.R_slice HO296.out
     (first | subst eo38 | (injection eo38 with f1_ f2_ f3_; have f4_ := f1_.symm; have f5_ := f3_.symm; clear f1_ f2_ f3_; subst f4_; subst f5_))
     obtain ⟨Ao39, co39, eo39⟩ := Kd.R_slice HO299.out
     (first | subst eo39 | (injection eo39 with f1_ f2_ f3_; have f4_ := f1_.symm; have f5_ := f3_.symm; clear f1_ f2_ f3_; subst f4_; subst f5_))
     obtain ⟨Ao40, co40, eo40⟩ := Kd.R_slice HO302.out
     (first | subst eo40 | (injection eo40 with f1_ f2_ f3_; have f4_ := f1_.symm; have f5_ := f3_.symm; clear f1_ f2_ f3_; subst f4_; subst f5_))
     obtain ⟨Ao41, co41, eo41⟩ := Kd.R_slice HO305.out
     (first | subst eo41 | (injection eo41 with f1_ f2_ f3_; have f4_ := f1_.symm; have f5_ := f3_.symm; clear f1_ f2_ f3_; subst f4_; subst f5_))
     refine hK.out _ _ ⟨(blk_cell BK290.out 0).trans rfl, (blk_cell BK290.out 1).trans rfl, (blk_cell BK291.out 0).trans rfl, (blk_cell BK291.out 1).trans rfl⟩ (fun hHeld => ?_)
     clear hK K
     refine norm_ (a' := ?_) ?_ ?_
     rotate_left
     ·
      show Act.put _ (some 34) _ = _
      simp only [Act.put, List.setIfInBounds_toArray, List.set_cons_zero, List.set_cons_succ, i64_w, i32_w]
      rfl
     refine one_ (i := 5) (N := some 35) #[true, true, true, true, true, true, false, false, false, true, false, false] rfl rfl (one_of HT_.out (by kernel_rfl)) (by decide) (fun K hK => ?_)
     refine goes_ Try.func6 (by kernel_rfl) rfl #[.int .i64 a0, .agg #[.slice Ao38 t294.length co38, .slice Ao39 t297.length co39], .agg #[.slice Ao40 t300.length co40, .slice Ao41 t303.length co41]] (by rfl) rfl rfl (by (try simp only [List.map_toArray, List.map_cons, List.map_nil]); first | done | rfl | (simp only [List.length_drop, List.length_take]; rfl)) ?_
     with_reducible refine (spec_EachTwo.calls k a0 _ _ t294 _ _ t297 _ _ t300 _ _ t303 t306 t309 t312 _ ?side1 ?side2 ?side3 ?side4 ?side5 ?side6 ?side7 ?side8 A22.out).mono ?_
     (case side1 => exact cU (Kd.R_reads' HO296.out).2.2)
     (case side2 => exact (Kd.R_reads' HO296.out).2.1)
     (case side3 => exact cU (Kd.R_reads' HO299.out).2.2)
     (case side4 => exact (Kd.R_reads' HO299.out).2.1)
     (case side5 => exact cU (Kd.R_reads' HO302.out).2.2)
     (case side6 => exact (Kd.R_reads' HO302.out).2.1)
     (case side7 => exact cU (Kd.R_reads' HO305.out).2.2)
     (case side8 => exact (Kd.R_reads' HO305.out).2.1)
     rintro e w42 ⟨v307, v310, rfl, ho0, ho1, hb⟩
     refine ⟨_, rfl, ?_⟩
     have HO308 := Aside0.mk (Kd.R_lower (Kd.R_new' (Kd.R_new' (Kd.R_new' (Kd.R_new' ho0 (Kd.R_lt (RU HO296.out))) (Kd.R_lt (RU HO299.out))) (Kd.R_lt (RU HO302.out))) (Kd.R_lt (RU HO305.out))) (below_size (bS3 HB.out GE290.out GE291.out GE313.out)))
     have HO311 := Aside0.mk (Kd.R_lower (Kd.R_new' (Kd.R_new' (Kd.R_new' (Kd.R_new' ho1 (Kd.R_lt (RU HO296.out))) (Kd.R_lt (RU HO299.out))) (Kd.R_lt (RU HO302.out))) (Kd.R_lt (RU HO305.out))) (below_size (bS3 HB.out GE290.out GE291.out GE313.out)))
     replace HO296 := Aside0.mk (Kd.R_mono (Kd.R_told (Kd.R_told (Kd.R_old (RU HO296.out) hb) (Kd.R_base ho0)) (Kd.R_base ho1)) (fun _ h_ => h_.1))
     replace HO299 := Aside0.mk (Kd.R_mono (Kd.R_told (Kd.R_told (Kd.R_old (RU HO299.out) hb) (Kd.R_base ho0)) (Kd.R_base ho1)) (fun _ h_ => h_.1))
     replace HO302 := Aside0.mk (Kd.R_mono (Kd.R_told (Kd.R_told (Kd.R_old (RU HO302.out) hb) (Kd.R_base ho0)) (Kd.R_base ho1)) (fun _ h_ => h_.1))
     replace HO305 := Aside0.mk (Kd.R_mono (Kd.R_told (Kd.R_told (Kd.R_old (RU HO305.out) hb) (Kd.R_base ho0)) (Kd.R_base ho1)) (fun _ h_ => h_.1))
     replace BK290 := Aside0.mk (blk_below (g := gb290) (o := .cells #[.slice A1_0 l1_0.length c1_0, .slice A1_1 l1_1.length c1_1] 24 (0, 0)) (kU BK290.out) hb)
     replace BK291 := Aside0.mk (blk_below (g := gb291) (o := .cells #[.slice A2_0 l2_0.length c2_0, .slice A2_1 l2_1.length c2_1] 24 (0, 0)) (kU BK291.out) hb)
     replace BK313 := Aside0.mk (blk_below (g := gb313) (o := .cells #[.slice none 0 0, .slice none 0 0] 26 (0, 0)) (kU BK313.out) hb)
     replace HB := Aside0.mk (below_step (bS3 HB.out GE290.out GE291.out GE313.out) hb)
     (try clear hb)
     (try clear hb2)
     (try clear hk)
     (try clear hi)
     (try clear ho0)
     (try clear ho1)
     refine hK.out _ _ ⟨(blk_cell BK290.out 0).trans rfl, (blk_cell BK290.out 1).trans rfl, (blk_cell BK291.out 0).trans rfl, (blk_cell BK291.out 1).trans rfl⟩ (fun hHeld => ?_)
     clear hK K
     refine norm_ (a' := ?_) ?_ ?_
     rotate_left
     ·
      show Act.put _ (some 35) _ = _
      simp only [Act.put, List.setIfInBounds_toArray, List.set_cons_zero, List.set_cons_succ, i64_w, i32_w]
      rfl
     refine pure_ (i := 6) (N := some 29) (v := ?_) (a' := ?_) #[true, true, true, true, true, true, true, false, false, true, false, false] rfl rfl (any_of HT_.out (by kernel_rfl)) (fun _ _ _ h => h) (Or.inl ⟨by rfl, ?_⟩) ?_ ?_
     rotate_left
     ·
      intro w'
      go_simp
      with_reducible rfl
     rotate_left
     ·
      simp only [Act.put, List.setIfInBounds_toArray, List.set_cons_zero, List.set_cons_succ, i64_w, i32_w]
      rfl
     refine pure_ (i := 7) (N := some 36) (v := ?_) (a' := ?_) #[true, true, true, true, true, true, true, true, false, true, false, false] rfl rfl (any_of HT_.out (by kernel_rfl)) (fun _ _ _ h => h) (Or.inl ⟨by rfl, ?_⟩) ?_ ?_
     rotate_left
     ·
      intro w'
      go_simp
      with_reducible rfl
     rotate_left
     ·
      simp only [Act.put, List.setIfInBounds_toArray, List.set_cons_zero, List.set_cons_succ, i64_w, i32_w]
      rfl
     refine pure_ (i := 8) (N := some 37) (v := ?_) (a' := ?_) #[true, true, true, true, true, true, true, true, true, true, false, false] rfl rfl (any_of HT_.out (by kernel_rfl)) (fun _ _ _ h => h) (Or.inl ⟨by rfl, ?_⟩) ?_ ?_
     rotate_left
     ·
      intro w'
      go_simp
      with_reducible rfl
     rotate_left
     ·
      simp only [Act.put, List.setIfInBounds_toArray, List.set_cons_zero, List.set_cons_succ, i64_w, i32_w]
      rfl
     exact norm_ (by simp only [putAll, Act.put, List.setIfInBounds_toArray, List.set_cons_zero, List.set_cons_succ]) (hCont (.slice Ao38 t294.length co38, .slice Ao39 t297.length co39, .slice Ao40 t300.length co40, .slice Ao41 t303.length co41, v307, v310, gb313) _ ⟨hHeld, (by (with_reducible repeat (first | apply Kd.R_alloc | apply Kd.R_drewN | apply Kd.R_drew)); exact Kd.R_mono HO296.out (fun _ hk => ⟨hk.1.1.1.1, ⟨hk.1.1.1.2, ⟨hk.1.1.2, ⟨hk.1.2, hk.2⟩⟩⟩⟩)), (by (with_reducible repeat (first | apply Kd.R_alloc | apply Kd.R_drewN | apply Kd.R_drew)); exact Kd.R_mono HO299.out (fun _ hk => ⟨hk.1.1.1.1, ⟨hk.1.1.1.2, ⟨hk.1.1.2, ⟨hk.1.2, hk.2⟩⟩⟩⟩)), (by (with_reducible repeat (first | apply Kd.R_alloc | apply Kd.R_drewN | apply Kd.R_drew)); exact Kd.R_mono HO302.out (fun _ hk => ⟨hk.1.1.1.2, ⟨hk.1.1.2, ⟨hk.1.1.1.1, ⟨hk.1.2, hk.2⟩⟩⟩⟩)), (by (with_reducible repeat (first | apply Kd.R_alloc | apply Kd.R_drewN | apply Kd.R_drew)); exact Kd.R_mono HO305.out (fun _ hk => ⟨hk.1.1.1.2, ⟨hk.1.1.2, ⟨hk.1.1.1.1, ⟨hk.1.2, hk.2⟩⟩⟩⟩)), (by (with_reducible repeat (first | apply Kd.R_alloc | apply Kd.R_drewN | apply Kd.R_drew)); exact Kd.R_mono HO308.out (fun _ hk => ⟨hk.1.1.1.2, ⟨hk.1.1.2, ⟨hk.1.2, ⟨hk.2, hk.1.1.1.1⟩⟩⟩⟩)), (by (with_reducible repeat (first | apply Kd.R_alloc | apply Kd.R_drewN | apply Kd.R_drew)); exact Kd.R_mono HO311.out (fun _ hk => ⟨hk.1.1.1.2, ⟨hk.1.1.2, ⟨hk.1.2, ⟨hk.2, hk.1.1.1.1⟩⟩⟩⟩)), (kU BK290.out), (kU BK291.out), (kU BK313.out), GW313.out, GE313.out, NB290_313.out, NB313_290.out, NB291_313.out, NB313_291.out, (bS3 HB.out GE290.out GE291.out GE313.out)⟩)
   rintro ⟨v295, v298, v301, v304, v307, v310, gb313⟩ w43 ⟨hS_, h0_, h1_, h2_, h3_, h4_, h5_, h6_, h7_, h8_, h9_, h10_, h11_, h12_, h13_, h14_, h15_⟩
   have n0_ : Aside0 (Kd.R (Kd.int .i64) 3 w43 w.heap.size (fun k_ => some k_ ≠ (v298 : Value).ownBlock ∧ some k_ ≠ (v301 : Value).ownBlock ∧ some k_ ≠ (v304 : Value).ownBlock ∧ some k_ ≠ (v307 : Value).ownBlock ∧ some k_ ≠ (v310 : Value).ownBlock) v295 t294) := ⟨h0_⟩
   have n1_ : Aside0 (Kd.R (Kd.int .i64) 3 w43 w.heap.size (fun k_ => some k_ ≠ (v295 : Value).ownBlock ∧ some k_ ≠ (v301 : Value).ownBlock ∧ some k_ ≠ (v304 : Value).ownBlock ∧ some k_ ≠ (v307 : Value).ownBlock ∧ some k_ ≠ (v310 : Value).ownBlock) v298 t297) := ⟨h1_⟩
   have n2_ : Aside0 (Kd.R (Kd.int .i64) 3 w43 w.heap.size (fun k_ => some k_ ≠ (v295 : Value).ownBlock ∧ some k_ ≠ (v298 : Value).ownBlock ∧ some k_ ≠ (v304 : Value).ownBlock ∧ some k_ ≠ (v307 : Value).ownBlock ∧ some k_ ≠ (v310 : Value).ownBlock) v301 t300) := ⟨h2_⟩
   have n3_ : Aside0 (Kd.R (Kd.int .i64) 3 w43 w.heap.size (fun k_ => some k_ ≠ (v295 : Value).ownBlock ∧ some k_ ≠ (v298 : Value).ownBlock ∧ some k_ ≠ (v301 : Value).ownBlock ∧ some k_ ≠ (v307 : Value).ownBlock ∧ some k_ ≠ (v310 : Value).ownBlock) v304 t303) := ⟨h3_⟩
   have n4_ : Aside0 (Kd.R (Kd.int .i64) 3 w43 w.heap.size (fun k_ => some k_ ≠ (v295 : Value).ownBlock ∧ some k_ ≠ (v298 : Value).ownBlock ∧ some k_ ≠ (v301 : Value).ownBlock ∧ some k_ ≠ (v304 : Value).ownBlock ∧ some k_ ≠ (v310 : Value).ownBlock) v307 t306) := ⟨h4_⟩
   have n5_ : Aside0 (Kd.R (Kd.int .i64) 3 w43 w.heap.size (fun k_ => some k_ ≠ (v295 : Value).ownBlock ∧ some k_ ≠ (v298 : Value).ownBlock ∧ some k_ ≠ (v301 : Value).ownBlock ∧ some k_ ≠ (v304 : Value).ownBlock ∧ some k_ ≠ (v307 : Value).ownBlock) v310 t309) := ⟨h5_⟩
   have n6_ : Aside0 (w43.heap[gb290]? = some (.cells #[.slice A1_0 l1_0.length c1_0, .slice A1_1 l1_1.length c1_1] 24 (0, 0))) := ⟨h6_⟩
   have n7_ : Aside0 (w43.heap[gb291]? = some (.cells #[.slice A2_0 l2_0.length c2_0, .slice A2_1 l2_1.length c2_1] 24 (0, 0))) := ⟨h7_⟩
   have n8_ : Aside0 (w43.heap[gb313]? = some (.cells #[.slice none 0 0, .slice none 0 0] 26 (0, 0))) := ⟨h8_⟩
   have n9_ : Aside0 (w.heap.size ≤ gb313) := ⟨h9_⟩
   have n10_ : Aside0 (w.heap.size ≤ gb313) := ⟨h10_⟩
   have n11_ : Aside0 (gb290 ≠ gb313) := ⟨h11_⟩
   have n12_ : Aside0 (gb313 ≠ gb290) := ⟨h12_⟩
   have n13_ : Aside0 (gb291 ≠ gb313) := ⟨h13_⟩
   have n14_ : Aside0 (gb313 ≠ gb291) := ⟨h14_⟩
   have n15_ : Aside0 (Below w.heap.size w w43) := ⟨h15_⟩
   clear BK290 BK291 HB
   clear h0_ h1_ h2_ h3_ h4_ h5_ h6_ h7_ h8_ h9_ h10_ h11_ h12_ h13_ h14_ h15_
   have HO296 := n0_
   have HO299 := n1_
   have HO302 := n2_
   have HO305 := n3_
   have HO308 := n4_
   have HO311 := n5_
   have BK290 := n6_
   have BK291 := n7_
   have BK313 := n8_
   have GW313 := n9_
   have GE313 := n10_
   have NB290_313 := n11_
   have NB313_290 := n12_
   have NB291_313 := n13_
   have NB313_291 := n14_
   have HB := n15_
   clear n0_ n1_ n2_ n3_ n4_ n5_ n6_ n7_ n8_ n9_ n10_ n11_ n12_ n13_ n14_ n15_
   have hHeld : w43.cell? ⟨gb290, 0, none⟩ = some (.slice A1_0 l1_0.length c1_0) ∧ w43.cell? ⟨gb290, 1, none⟩ = some (.slice A1_1 l1_1.length c1_1) ∧ w43.cell? ⟨gb291, 0, none⟩ = some (.slice A2_0 l2_0.length c2_0) ∧ w43.cell? ⟨gb291, 1, none⟩ = some (.slice A2_1 l2_1.length c2_1) := hS_
   obtain ⟨Ao44, co44, eo44⟩ := Kd.R_slice HO308.out
   (first | subst eo44 | (injection eo44 with f1_ f2_ f3_; have f4_ := f1_.symm; have f5_ := f3_.symm; clear f1_ f2_ f3_; subst f4_; subst f5_))
   obtain ⟨Ao46, co46, eo46⟩ := Kd.R_slice HO311.out
   (first | subst eo46 | (injection eo46 with f1_ f2_ f3_; have f4_ := f1_.symm; have f5_ := f3_.symm; clear f1_ f2_ f3_; subst f4_; subst f5_))
   refine norm_ (a' := ?_) ?_ ?_
   rotate_left
   ·
    simp only [putAll, Act.put, List.setIfInBounds_toArray, List.set_cons_zero, List.set_cons_succ]
    rfl
   refine one_ (i := 10) (N := none) #[true, true, true, true, true, true, true, true, true, true, true, false] rfl rfl (one_of HT_.out (by kernel_rfl)) (by decide) (fun K hK => ?_)
   have hs45 : w43.cell? ⟨gb313, 0, none⟩ = some (.slice none 0 0) := (blk_cell BK313.out 0).trans rfl
   have hfs45 := blk_frozen BK313.out 0
   have hns45_0 := NB290_313.out
   have hns45_1 := NB291_313.out
   have hms45_0 := NB313_290.out
   have hms45_1 := NB313_291.out
   have hs47 : w43.cell? ⟨gb313, 1, none⟩ = some (.slice none 0 0) := (blk_cell BK313.out 1).trans rfl
   have hfs47 := blk_frozen BK313.out 1
   have hns47_0 := NB290_313.out
   have hns47_1 := NB291_313.out
   have hms47_0 := NB313_290.out
   have hms47_1 := NB313_291.out
   refine skip_ (w1 := ?_) (by rfl) rfl ?_ ?_
   rotate_left
   ·
    go_simp
    rfl
   refine hK.out _ _ ⟨((cell_far (p := ⟨gb313, _, none⟩) NB290_313.out _).trans (((cell_far (p := ⟨gb313, _, none⟩) NB290_313.out _).trans (hHeld.1)))), ((cell_far (p := ⟨gb313, _, none⟩) NB290_313.out _).trans (((cell_far (p := ⟨gb313, _, none⟩) NB290_313.out _).trans (hHeld.2.1)))), ((cell_far (p := ⟨gb313, _, none⟩) NB291_313.out _).trans (((cell_far (p := ⟨gb313, _, none⟩) NB291_313.out _).trans (hHeld.2.2.1)))), ((cell_far (p := ⟨gb313, _, none⟩) NB291_313.out _).trans (((cell_far (p := ⟨gb313, _, none⟩) NB291_313.out _).trans (hHeld.2.2.2))))⟩ (fun hHeld => ?_)
   clear hK K
   refine pure_ (i := 11) (N := some 9) (v := ?_) (a' := ?_) #[true, true, true, true, true, true, true, true, true, true, true, true] rfl rfl (any_of HT_.out (by kernel_rfl)) (fun _ _ _ h => h) (Or.inl ⟨by rfl, ?_⟩) ?_ ?_
   rotate_left
   ·
    intro w'
    go_simp
    with_reducible rfl
   rotate_left
   ·
    simp only [Act.put, List.setIfInBounds_toArray, List.set_cons_zero, List.set_cons_succ, i64_w, i32_w]
    rfl
   refine done_ (done_of HT_.out (by kernel_rfl)) ?_
   have hnb48 := NB290_313.out
   have hnc48 := NB313_290.out
   have hcz49_0 : w43.cell? ⟨gb290, 0, none⟩ = some (.slice A1_0 l1_0.length c1_0) := (blk_cell BK290.out 0).trans rfl
   have hcz49_1 : w43.cell? ⟨gb290, 1, none⟩ = some (.slice A1_1 l1_1.length c1_1) := (blk_cell BK290.out 1).trans rfl
   have hfz49_0 := blk_frozen BK290.out 0
   have hfz49_1 := blk_frozen BK290.out 1
   go_upto_region 12 with (first | ((with_reducible refine gate_callee (f := 7) rfl ?_); refine goesL_ (some 39) rfl rfl Try.func7 (by kernel_rfl) rfl #[.agg #[.slice A1_0 l1_0.length c1_0, .slice A1_1 l1_1.length c1_1]] rfl (by (try simp only [List.map_toArray, List.map_cons, List.map_nil]); first | done | rfl | (simp only [List.length_drop, List.length_take]; rfl)) ?_; (with_reducible refine (laws_toArray.calls k _ _ l1_0 _ _ l1_1 t314 t317 _ ?side1 ?side2 ?side3 ?side4 A23.out).mono ?_); (case side1 => exact Kd.C_below HR1_0.out (bS3 HB.out GE290.out GE291.out GE313.out)); (case side2 => exact HC1_0.out); (case side3 => exact Kd.C_below HR1_1.out (bS3 HB.out GE290.out GE291.out GE313.out)); (case side4 => exact HC1_1.out); rintro e w50 ⟨v315, v318, rfl, ho0, ho1, hb⟩; refine ⟨_, rfl, ?_⟩; have HO316 := Aside0.mk (Kd.R_lower (Kd.R_new' (Kd.R_new' (Kd.R_new' (Kd.R_new' (Kd.R_new' (Kd.R_new' ho0 (Kd.R_lt (by (with_reducible repeat (first | apply Kd.R_alloc | apply Kd.R_drewN | apply Kd.R_drew)); exact (far2 HO296.out BK313.out)))) (Kd.R_lt (by (with_reducible repeat (first | apply Kd.R_alloc | apply Kd.R_drewN | apply Kd.R_drew)); exact (far2 HO299.out BK313.out)))) (Kd.R_lt (by (with_reducible repeat (first | apply Kd.R_alloc | apply Kd.R_drewN | apply Kd.R_drew)); exact (far2 HO302.out BK313.out)))) (Kd.R_lt (by (with_reducible repeat (first | apply Kd.R_alloc | apply Kd.R_drewN | apply Kd.R_drew)); exact (far2 HO305.out BK313.out)))) (Kd.R_lt (by (with_reducible repeat (first | apply Kd.R_alloc | apply Kd.R_drewN | apply Kd.R_drew)); exact (far2 HO308.out BK313.out)))) (Kd.R_lt (by (with_reducible repeat (first | apply Kd.R_alloc | apply Kd.R_drewN | apply Kd.R_drew)); exact (far2 HO311.out BK313.out)))) (below_size (bS3 HB.out GE290.out GE291.out GE313.out))); have HO319 := Aside0.mk (Kd.R_lower (Kd.R_new' (Kd.R_new' (Kd.R_new' (Kd.R_new' (Kd.R_new' (Kd.R_new' ho1 (Kd.R_lt (by (with_reducible repeat (first | apply Kd.R_alloc | apply Kd.R_drewN | apply Kd.R_drew)); exact (far2 HO296.out BK313.out)))) (Kd.R_lt (by (with_reducible repeat (first | apply Kd.R_alloc | apply Kd.R_drewN | apply Kd.R_drew)); exact (far2 HO299.out BK313.out)))) (Kd.R_lt (by (with_reducible repeat (first | apply Kd.R_alloc | apply Kd.R_drewN | apply Kd.R_drew)); exact (far2 HO302.out BK313.out)))) (Kd.R_lt (by (with_reducible repeat (first | apply Kd.R_alloc | apply Kd.R_drewN | apply Kd.R_drew)); exact (far2 HO305.out BK313.out)))) (Kd.R_lt (by (with_reducible repeat (first | apply Kd.R_alloc | apply Kd.R_drewN | apply Kd.R_drew)); exact (far2 HO308.out BK313.out)))) (Kd.R_lt (by (with_reducible repeat (first | apply Kd.R_alloc | apply Kd.R_drewN | apply Kd.R_drew)); exact (far2 HO311.out BK313.out)))) (below_size (bS3 HB.out GE290.out GE291.out GE313.out))); replace HO296 := Aside0.mk (Kd.R_mono (Kd.R_told (Kd.R_told (Kd.R_old (by (with_reducible repeat (first | apply Kd.R_alloc | apply Kd.R_drewN | apply Kd.R_drew)); exact (far2 HO296.out BK313.out)) hb) (Kd.R_base ho0)) (Kd.R_base ho1)) (fun _ h_ => h_.1)); replace HO299 := Aside0.mk (Kd.R_mono (Kd.R_told (Kd.R_told (Kd.R_old (by (with_reducible repeat (first | apply Kd.R_alloc | apply Kd.R_drewN | apply Kd.R_drew)); exact (far2 HO299.out BK313.out)) hb) (Kd.R_base ho0)) (Kd.R_base ho1)) (fun _ h_ => h_.1)); replace HO302 := Aside0.mk (Kd.R_mono (Kd.R_told (Kd.R_told (Kd.R_old (by (with_reducible repeat (first | apply Kd.R_alloc | apply Kd.R_drewN | apply Kd.R_drew)); exact (far2 HO302.out BK313.out)) hb) (Kd.R_base ho0)) (Kd.R_base ho1)) (fun _ h_ => h_.1)); replace HO305 := Aside0.mk (Kd.R_mono (Kd.R_told (Kd.R_told (Kd.R_old (by (with_reducible repeat (first | apply Kd.R_alloc | apply Kd.R_drewN | apply Kd.R_drew)); exact (far2 HO305.out BK313.out)) hb) (Kd.R_base ho0)) (Kd.R_base ho1)) (fun _ h_ => h_.1)); replace HO308 := Aside0.mk (Kd.R_mono (Kd.R_told (Kd.R_told (Kd.R_old (by (with_reducible repeat (first | apply Kd.R_alloc | apply Kd.R_drewN | apply Kd.R_drew)); exact (far2 HO308.out BK313.out)) hb) (Kd.R_base ho0)) (Kd.R_base ho1)) (fun _ h_ => h_.1)); replace HO311 := Aside0.mk (Kd.R_mono (Kd.R_told (Kd.R_told (Kd.R_old (by (with_reducible repeat (first | apply Kd.R_alloc | apply Kd.R_drewN | apply Kd.R_drew)); exact (far2 HO311.out BK313.out)) hb) (Kd.R_base ho0)) (Kd.R_base ho1)) (fun _ h_ => h_.1)); replace BK290 := Aside0.mk (blk_below (g := gb290) (o := .cells #[.slice A1_0 l1_0.length c1_0, .slice A1_1 l1_1.length c1_1] 24 (0, 0)) (by (with_reducible repeat (first | refine blk_drewN ?_ _ | refine blk_drew ?_ | refine blk_alloc ?_ _)); refine blk_far ?_ NB290_313.out _; (with_reducible repeat (first | refine blk_drewN ?_ _ | refine blk_drew ?_ | refine blk_alloc ?_ _)); refine blk_far ?_ NB290_313.out _; (with_reducible repeat (first | refine blk_drewN ?_ _ | refine blk_drew ?_ | refine blk_alloc ?_ _)); exact BK290.out) hb); replace BK291 := Aside0.mk (blk_below (g := gb291) (o := .cells #[.slice A2_0 l2_0.length c2_0, .slice A2_1 l2_1.length c2_1] 24 (0, 0)) (by (with_reducible repeat (first | refine blk_drewN ?_ _ | refine blk_drew ?_ | refine blk_alloc ?_ _)); refine blk_far ?_ NB291_313.out _; (with_reducible repeat (first | refine blk_drewN ?_ _ | refine blk_drew ?_ | refine blk_alloc ?_ _)); refine blk_far ?_ NB291_313.out _; (with_reducible repeat (first | refine blk_drewN ?_ _ | refine blk_drew ?_ | refine blk_alloc ?_ _)); exact BK291.out) hb); replace BK313 := Aside0.mk (blk_below (g := gb313) (o := .cells #[.slice Ao44 t306.length co44, .slice Ao46 t309.length co46] 26 (0, 0)) (by (with_reducible repeat (first | refine blk_drewN ?_ _ | refine blk_drew ?_ | refine blk_alloc ?_ _)); refine blk_put (cs := #[.slice Ao44 t306.length co44, .slice none 0 0]) ?_ 1 _ rfl; (with_reducible repeat (first | refine blk_drewN ?_ _ | refine blk_drew ?_ | refine blk_alloc ?_ _)); refine blk_put (cs := #[.slice none 0 0, .slice none 0 0]) ?_ 0 _ rfl; (with_reducible repeat (first | refine blk_drewN ?_ _ | refine blk_drew ?_ | refine blk_alloc ?_ _)); exact BK313.out) hb); replace HB := Aside0.mk (below_step (bS3 HB.out GE290.out GE291.out GE313.out) hb); (try clear hb); (try clear hb2); (try clear hk); (try clear hi); (try clear ho0); (try clear ho1)) | ((with_reducible refine gate_dst (N := 10) rfl ?_); refine box_event ?hg (N := 10) ?hd (cs := #[.slice none 0 0, .slice none 0 0]) (t := 26) ?hr ?_; (case hd => rfl); (case hg => rfl); (case hr => first | (go_simp; done) | (go_simp; rfl)); intro gb320 hg w51 hbox hb; replace HO296 := Aside0.mk (Kd.R_below (RU HO296.out) hb); replace HO299 := Aside0.mk (Kd.R_below (RU HO299.out) hb); replace HO302 := Aside0.mk (Kd.R_below (RU HO302.out) hb); replace HO305 := Aside0.mk (Kd.R_below (RU HO305.out) hb); replace HO308 := Aside0.mk (Kd.R_below (RU HO308.out) hb); replace HO311 := Aside0.mk (Kd.R_below (RU HO311.out) hb); replace HO316 := Aside0.mk (Kd.R_below (RU HO316.out) hb); replace HO319 := Aside0.mk (Kd.R_below (RU HO319.out) hb); have BK320 := Aside0.mk (hbox); have GW320 := Aside0.mk ((by rw [hg]; exact (below_size (bS3 HB.out GE290.out GE291.out GE313.out)) : w.heap.size ≤ gb320)); have GE320 := Aside0.mk ((by rw [hg]; exact (below_size (bS3 HB.out GE290.out GE291.out GE313.out)) : w.heap.size ≤ gb320)); replace HB := Aside0.mk (below_step (bS3 HB.out GE290.out GE291.out GE313.out) hb); have NB290_320 := Aside0.mk ((by rw [hg]; exact Nat.ne_of_lt (blk_lt (g := gb290) (o := .cells #[.slice A1_0 l1_0.length c1_0, .slice A1_1 l1_1.length c1_1] 24 (0, 0)) (kU BK290.out)) : gb290 ≠ gb320)); have NB320_290 := Aside0.mk ((by rw [hg]; exact Nat.ne_of_gt (blk_lt (g := gb290) (o := .cells #[.slice A1_0 l1_0.length c1_0, .slice A1_1 l1_1.length c1_1] 24 (0, 0)) (kU BK290.out)) : gb320 ≠ gb290)); replace BK290 := Aside0.mk (blk_below (g := gb290) (o := .cells #[.slice A1_0 l1_0.length c1_0, .slice A1_1 l1_1.length c1_1] 24 (0, 0)) (kU BK290.out) hb); have NB291_320 := Aside0.mk ((by rw [hg]; exact Nat.ne_of_lt (blk_lt (g := gb291) (o := .cells #[.slice A2_0 l2_0.length c2_0, .slice A2_1 l2_1.length c2_1] 24 (0, 0)) (kU BK291.out)) : gb291 ≠ gb320)); have NB320_291 := Aside0.mk ((by rw [hg]; exact Nat.ne_of_gt (blk_lt (g := gb291) (o := .cells #[.slice A2_0 l2_0.length c2_0, .slice A2_1 l2_1.length c2_1] 24 (0, 0)) (kU BK291.out)) : gb320 ≠ gb291)); replace BK291 := Aside0.mk (blk_below (g := gb291) (o := .cells #[.slice A2_0 l2_0.length c2_0, .slice A2_1 l2_1.length c2_1] 24 (0, 0)) (kU BK291.out) hb); have NB313_320 := Aside0.mk ((by rw [hg]; exact Nat.ne_of_lt (blk_lt (g := gb313) (o := .cells #[.slice Ao44 t306.length co44, .slice Ao46 t309.length co46] 26 (0, 0)) (kU BK313.out)) : gb313 ≠ gb320)); have NB320_313 := Aside0.mk ((by rw [hg]; exact Nat.ne_of_gt (blk_lt (g := gb313) (o := .cells #[.slice Ao44 t306.length co44, .slice Ao46 t309.length co46] 26 (0, 0)) (kU BK313.out)) : gb320 ≠ gb313)); replace BK313 := Aside0.mk (blk_below (g := gb313) (o := .cells #[.slice Ao44 t306.length co44, .slice Ao46 t309.length co46] 26 (0, 0)) (kU BK313.out) hb); clear hb hbox hg; obtain ⟨Ao52, co52, eo52⟩ := Kd.R_slice HO316.out; subst eo52; have hnb53 := NB320_290.out; have hnc53 := NB290_320.out; have hnb54 := NB320_291.out; have hnc54 := NB291_320.out; have hnb55 := NB320_313.out; have hnc55 := NB313_320.out; have hcz56_0 : w51.cell? ⟨gb320, 0, none⟩ = some (.slice none 0 0) := (blk_cell BK320.out 0).trans rfl; have hcz56_1 : w51.cell? ⟨gb320, 1, none⟩ = some (.slice none 0 0) := (blk_cell BK320.out 1).trans rfl; have hfz56_0 := blk_frozen BK320.out 0; have hfz56_1 := blk_frozen BK320.out 1; obtain ⟨Ao57, co57, eo57⟩ := Kd.R_slice HO319.out; subst eo57; have hnb58 := NB291_313.out; have hnc58 := NB313_291.out; have hcz59_0 : w51.cell? ⟨gb291, 0, none⟩ = some (.slice A2_0 l2_0.length c2_0) := (blk_cell BK291.out 0).trans rfl; have hcz59_1 : w51.cell? ⟨gb291, 1, none⟩ = some (.slice A2_1 l2_1.length c2_1) := (blk_cell BK291.out 1).trans rfl; have hfz59_0 := blk_frozen BK291.out 0; have hfz59_1 := blk_frozen BK291.out 1) | ((with_reducible refine gate_callee (f := 7) rfl ?_); refine goesL_ (some 41) rfl rfl Try.func7 (by kernel_rfl) rfl #[.agg #[.slice A2_0 l2_0.length c2_0, .slice A2_1 l2_1.length c2_1]] rfl (by (try simp only [List.map_toArray, List.map_cons, List.map_nil]); first | done | rfl | (simp only [List.length_drop, List.length_take]; rfl)) ?_; (with_reducible refine (laws_toArray.calls k _ _ l2_0 _ _ l2_1 t321 t324 _ ?side1 ?side2 ?side3 ?side4 A24.out).mono ?_); (case side1 => exact Kd.C_below HR2_0.out (bS4 HB.out GE290.out GE291.out GE313.out GE320.out)); (case side2 => exact HC2_0.out); (case side3 => exact Kd.C_below HR2_1.out (bS4 HB.out GE290.out GE291.out GE313.out GE320.out)); (case side4 => exact HC2_1.out); rintro e w60 ⟨v322, v325, rfl, ho0, ho1, hb⟩; refine ⟨_, rfl, ?_⟩; have HO323 := Aside0.mk (Kd.R_lower (Kd.R_new' (Kd.R_new' (Kd.R_new' (Kd.R_new' (Kd.R_new' (Kd.R_new' (Kd.R_new' (Kd.R_new' ho0 (Kd.R_lt (by (with_reducible repeat (first | apply Kd.R_alloc | apply Kd.R_drewN | apply Kd.R_drew)); exact (far2 HO296.out BK320.out)))) (Kd.R_lt (by (with_reducible repeat (first | apply Kd.R_alloc | apply Kd.R_drewN | apply Kd.R_drew)); exact (far2 HO299.out BK320.out)))) (Kd.R_lt (by (with_reducible repeat (first | apply Kd.R_alloc | apply Kd.R_drewN | apply Kd.R_drew)); exact (far2 HO302.out BK320.out)))) (Kd.R_lt (by (with_reducible repeat (first | apply Kd.R_alloc | apply Kd.R_drewN | apply Kd.R_drew)); exact (far2 HO305.out BK320.out)))) (Kd.R_lt (by (with_reducible repeat (first | apply Kd.R_alloc | apply Kd.R_drewN | apply Kd.R_drew)); exact (far2 HO308.out BK320.out)))) (Kd.R_lt (by (with_reducible repeat (first | apply Kd.R_alloc | apply Kd.R_drewN | apply Kd.R_drew)); exact (far2 HO311.out BK320.out)))) (Kd.R_lt (by (with_reducible repeat (first | apply Kd.R_alloc | apply Kd.R_drewN | apply Kd.R_drew)); exact (far2 HO316.out BK320.out)))) (Kd.R_lt (by (with_reducible repeat (first | apply Kd.R_alloc | apply Kd.R_drewN | apply Kd.R_drew)); exact (far2 HO319.out BK320.out)))) (below_size (bS4 HB.out GE290.out GE291.out GE313.out GE320.out))); have HO326 := Aside0.mk (Kd.R_lower (Kd.R_new' (Kd.R_new' (Kd.R_new' (Kd.R_new' (Kd.R_new' (Kd.R_new' (Kd.R_new' (Kd.R_new' ho1 (Kd.R_lt (by (with_reducible repeat (first | apply Kd.R_alloc | apply Kd.R_drewN | apply Kd.R_drew)); exact (far2 HO296.out BK320.out)))) (Kd.R_lt (by (with_reducible repeat (first | apply Kd.R_alloc | apply Kd.R_drewN | apply Kd.R_drew)); exact (far2 HO299.out BK320.out)))) (Kd.R_lt (by (with_reducible repeat (first | apply Kd.R_alloc | apply Kd.R_drewN | apply Kd.R_drew)); exact (far2 HO302.out BK320.out)))) (Kd.R_lt (by (with_reducible repeat (first | apply Kd.R_alloc | apply Kd.R_drewN | apply Kd.R_drew)); exact (far2 HO305.out BK320.out)))) (Kd.R_lt (by (with_reducible repeat (first | apply Kd.R_alloc | apply Kd.R_drewN | apply Kd.R_drew)); exact (far2 HO308.out BK320.out)))) (Kd.R_lt (by (with_reducible repeat (first | apply Kd.R_alloc | apply Kd.R_drewN | apply Kd.R_drew)); exact (far2 HO311.out BK320.out)))) (Kd.R_lt (by (with_reducible repeat (first | apply Kd.R_alloc | apply Kd.R_drewN | apply Kd.R_drew)); exact (far2 HO316.out BK320.out)))) (Kd.R_lt (by (with_reducible repeat (first | apply Kd.R_alloc | apply Kd.R_drewN | apply Kd.R_drew)); exact (far2 HO319.out BK320.out)))) (below_size (bS4 HB.out GE290.out GE291.out GE313.out GE320.out))); replace HO296 := Aside0.mk (Kd.R_mono (Kd.R_told (Kd.R_told (Kd.R_old (by (with_reducible repeat (first | apply Kd.R_alloc | apply Kd.R_drewN | apply Kd.R_drew)); exact (far2 HO296.out BK320.out)) hb) (Kd.R_base ho0)) (Kd.R_base ho1)) (fun _ h_ => h_.1)); replace HO299 := Aside0.mk (Kd.R_mono (Kd.R_told (Kd.R_told (Kd.R_old (by (with_reducible repeat (first | apply Kd.R_alloc | apply Kd.R_drewN | apply Kd.R_drew)); exact (far2 HO299.out BK320.out)) hb) (Kd.R_base ho0)) (Kd.R_base ho1)) (fun _ h_ => h_.1)); replace HO302 := Aside0.mk (Kd.R_mono (Kd.R_told (Kd.R_told (Kd.R_old (by (with_reducible repeat (first | apply Kd.R_alloc | apply Kd.R_drewN | apply Kd.R_drew)); exact (far2 HO302.out BK320.out)) hb) (Kd.R_base ho0)) (Kd.R_base ho1)) (fun _ h_ => h_.1)); replace HO305 := Aside0.mk (Kd.R_mono (Kd.R_told (Kd.R_told (Kd.R_old (by (with_reducible repeat (first | apply Kd.R_alloc | apply Kd.R_drewN | apply Kd.R_drew)); exact (far2 HO305.out BK320.out)) hb) (Kd.R_base ho0)) (Kd.R_base ho1)) (fun _ h_ => h_.1)); replace HO308 := Aside0.mk (Kd.R_mono (Kd.R_told (Kd.R_told (Kd.R_old (by (with_reducible repeat (first | apply Kd.R_alloc | apply Kd.R_drewN | apply Kd.R_drew)); exact (far2 HO308.out BK320.out)) hb) (Kd.R_base ho0)) (Kd.R_base ho1)) (fun _ h_ => h_.1)); replace HO311 := Aside0.mk (Kd.R_mono (Kd.R_told (Kd.R_told (Kd.R_old (by (with_reducible repeat (first | apply Kd.R_alloc | apply Kd.R_drewN | apply Kd.R_drew)); exact (far2 HO311.out BK320.out)) hb) (Kd.R_base ho0)) (Kd.R_base ho1)) (fun _ h_ => h_.1)); replace HO316 := Aside0.mk (Kd.R_mono (Kd.R_told (Kd.R_told (Kd.R_old (by (with_reducible repeat (first | apply Kd.R_alloc | apply Kd.R_drewN | apply Kd.R_drew)); exact (far2 HO316.out BK320.out)) hb) (Kd.R_base ho0)) (Kd.R_base ho1)) (fun _ h_ => h_.1)); replace HO319 := Aside0.mk (Kd.R_mono (Kd.R_told (Kd.R_told (Kd.R_old (by (with_reducible repeat (first | apply Kd.R_alloc | apply Kd.R_drewN | apply Kd.R_drew)); exact (far2 HO319.out BK320.out)) hb) (Kd.R_base ho0)) (Kd.R_base ho1)) (fun _ h_ => h_.1)); replace BK290 := Aside0.mk (blk_below (g := gb290) (o := .cells #[.slice A1_0 l1_0.length c1_0, .slice A1_1 l1_1.length c1_1] 24 (0, 0)) (by (with_reducible repeat (first | refine blk_drewN ?_ _ | refine blk_drew ?_ | refine blk_alloc ?_ _)); refine blk_far ?_ NB290_320.out _; (with_reducible repeat (first | refine blk_drewN ?_ _ | refine blk_drew ?_ | refine blk_alloc ?_ _)); refine blk_far ?_ NB290_320.out _; (with_reducible repeat (first | refine blk_drewN ?_ _ | refine blk_drew ?_ | refine blk_alloc ?_ _)); exact BK290.out) hb); replace BK291 := Aside0.mk (blk_below (g := gb291) (o := .cells #[.slice A2_0 l2_0.length c2_0, .slice A2_1 l2_1.length c2_1] 24 (0, 0)) (by (with_reducible repeat (first | refine blk_drewN ?_ _ | refine blk_drew ?_ | refine blk_alloc ?_ _)); refine blk_far ?_ NB291_320.out _; (with_reducible repeat (first | refine blk_drewN ?_ _ | refine blk_drew ?_ | refine blk_alloc ?_ _)); refine blk_far ?_ NB291_320.out _; (with_reducible repeat (first | refine blk_drewN ?_ _ | refine blk_drew ?_ | refine blk_alloc ?_ _)); exact BK291.out) hb); replace BK313 := Aside0.mk (blk_below (g := gb313) (o := .cells #[.slice Ao44 t306.length co44, .slice Ao46 t309.length co46] 26 (0, 0)) (by (with_reducible repeat (first | refine blk_drewN ?_ _ | refine blk_drew ?_ | refine blk_alloc ?_ _)); refine blk_far ?_ NB313_320.out _; (with_reducible repeat (first | refine blk_drewN ?_ _ | refine blk_drew ?_ | refine blk_alloc ?_ _)); refine blk_far ?_ NB313_320.out _; (with_reducible repeat (first | refine blk_drewN ?_ _ | refine blk_drew ?_ | refine blk_alloc ?_ _)); exact BK313.out) hb); replace BK320 := Aside0.mk (blk_below (g := gb320) (o := .cells #[.slice Ao52 t314.length co52, .slice Ao57 t317.length co57] 26 (0, 0)) (by (with_reducible repeat (first | refine blk_drewN ?_ _ | refine blk_drew ?_ | refine blk_alloc ?_ _)); refine blk_put (cs := #[.slice Ao52 t314.length co52, .slice none 0 0]) ?_ 1 _ rfl; (with_reducible repeat (first | refine blk_drewN ?_ _ | refine blk_drew ?_ | refine blk_alloc ?_ _)); refine blk_put (cs := #[.slice none 0 0, .slice none 0 0]) ?_ 0 _ rfl; (with_reducible repeat (first | refine blk_drewN ?_ _ | refine blk_drew ?_ | refine blk_alloc ?_ _)); exact BK320.out) hb); replace HB := Aside0.mk (below_step (bS4 HB.out GE290.out GE291.out GE313.out GE320.out) hb); (try clear hb); (try clear hb2); (try clear hk); (try clear hi); (try clear ho0); (try clear ho1)) | ((with_reducible refine gate_dst (N := 11) rfl ?_); refine box_event ?hg (N := 11) ?hd (cs := #[.slice none 0 0, .slice none 0 0]) (t := 26) ?hr ?_; (case hd => rfl); (case hg => rfl); (case hr => first | (go_simp; done) | (go_simp; rfl)); intro gb327 hg w61 hbox hb; replace HO296 := Aside0.mk (Kd.R_below (RU HO296.out) hb); replace HO299 := Aside0.mk (Kd.R_below (RU HO299.out) hb); replace HO302 := Aside0.mk (Kd.R_below (RU HO302.out) hb); replace HO305 := Aside0.mk (Kd.R_below (RU HO305.out) hb); replace HO308 := Aside0.mk (Kd.R_below (RU HO308.out) hb); replace HO311 := Aside0.mk (Kd.R_below (RU HO311.out) hb); replace HO316 := Aside0.mk (Kd.R_below (RU HO316.out) hb); replace HO319 := Aside0.mk (Kd.R_below (RU HO319.out) hb); replace HO323 := Aside0.mk (Kd.R_below (RU HO323.out) hb); replace HO326 := Aside0.mk (Kd.R_below (RU HO326.out) hb); have BK327 := Aside0.mk (hbox); have GW327 := Aside0.mk ((by rw [hg]; exact (below_size (bS4 HB.out GE290.out GE291.out GE313.out GE320.out)) : w.heap.size ≤ gb327)); have GE327 := Aside0.mk ((by rw [hg]; exact (below_size (bS4 HB.out GE290.out GE291.out GE313.out GE320.out)) : w.heap.size ≤ gb327)); replace HB := Aside0.mk (below_step (bS4 HB.out GE290.out GE291.out GE313.out GE320.out) hb); have NB290_327 := Aside0.mk ((by rw [hg]; exact Nat.ne_of_lt (blk_lt (g := gb290) (o := .cells #[.slice A1_0 l1_0.length c1_0, .slice A1_1 l1_1.length c1_1] 24 (0, 0)) (kU BK290.out)) : gb290 ≠ gb327)); have NB327_290 := Aside0.mk ((by rw [hg]; exact Nat.ne_of_gt (blk_lt (g := gb290) (o := .cells #[.slice A1_0 l1_0.length c1_0, .slice A1_1 l1_1.length c1_1] 24 (0, 0)) (kU BK290.out)) : gb327 ≠ gb290)); replace BK290 := Aside0.mk (blk_below (g := gb290) (o := .cells #[.slice A1_0 l1_0.length c1_0, .slice A1_1 l1_1.length c1_1] 24 (0, 0)) (kU BK290.out) hb); have NB291_327 := Aside0.mk ((by rw [hg]; exact Nat.ne_of_lt (blk_lt (g := gb291) (o := .cells #[.slice A2_0 l2_0.length c2_0, .slice A2_1 l2_1.length c2_1] 24 (0, 0)) (kU BK291.out)) : gb291 ≠ gb327)); have NB327_291 := Aside0.mk ((by rw [hg]; exact Nat.ne_of_gt (blk_lt (g := gb291) (o := .cells #[.slice A2_0 l2_0.length c2_0, .slice A2_1 l2_1.length c2_1] 24 (0, 0)) (kU BK291.out)) : gb327 ≠ gb291)); replace BK291 := Aside0.mk (blk_below (g := gb291) (o := .cells #[.slice A2_0 l2_0.length c2_0, .slice A2_1 l2_1.length c2_1] 24 (0, 0)) (kU BK291.out) hb); have NB313_327 := Aside0.mk ((by rw [hg]; exact Nat.ne_of_lt (blk_lt (g := gb313) (o := .cells #[.slice Ao44 t306.length co44, .slice Ao46 t309.length co46] 26 (0, 0)) (kU BK313.out)) : gb313 ≠ gb327)); have NB327_313 := Aside0.mk ((by rw [hg]; exact Nat.ne_of_gt (blk_lt (g := gb313) (o := .cells #[.slice Ao44 t306.length co44, .slice Ao46 t309.length co46] 26 (0, 0)) (kU BK313.out)) : gb327 ≠ gb313)); replace BK313 := Aside0.mk (blk_below (g := gb313) (o := .cells #[.slice Ao44 t306.length co44, .slice Ao46 t309.length co46] 26 (0, 0)) (kU BK313.out) hb); have NB320_327 := Aside0.mk ((by rw [hg]; exact Nat.ne_of_lt (blk_lt (g := gb320) (o := .cells #[.slice Ao52 t314.length co52, .slice Ao57 t317.length co57] 26 (0, 0)) (kU BK320.out)) : gb320 ≠ gb327)); have NB327_320 := Aside0.mk ((by rw [hg]; exact Nat.ne_of_gt (blk_lt (g := gb320) (o := .cells #[.slice Ao52 t314.length co52, .slice Ao57 t317.length co57] 26 (0, 0)) (kU BK320.out)) : gb327 ≠ gb320)); replace BK320 := Aside0.mk (blk_below (g := gb320) (o := .cells #[.slice Ao52 t314.length co52, .slice Ao57 t317.length co57] 26 (0, 0)) (kU BK320.out) hb); clear hb hbox hg; obtain ⟨Ao62, co62, eo62⟩ := Kd.R_slice HO323.out; subst eo62; have hnb63 := NB327_290.out; have hnc63 := NB290_327.out; have hnb64 := NB327_291.out; have hnc64 := NB291_327.out; have hnb65 := NB327_313.out; have hnc65 := NB313_327.out; have hnb66 := NB327_320.out; have hnc66 := NB320_327.out; have hcz67_0 : w61.cell? ⟨gb327, 0, none⟩ = some (.slice none 0 0) := (blk_cell BK327.out 0).trans rfl; have hcz67_1 : w61.cell? ⟨gb327, 1, none⟩ = some (.slice none 0 0) := (blk_cell BK327.out 1).trans rfl; have hfz67_0 := blk_frozen BK327.out 0; have hfz67_1 := blk_frozen BK327.out 1; obtain ⟨Ao68, co68, eo68⟩ := Kd.R_slice HO326.out; subst eo68; have hcz69_0 : w61.cell? ⟨gb320, 0, none⟩ = some (.slice Ao52 t314.length co52) := (blk_cell BK320.out 0).trans rfl; have hcz69_1 : w61.cell? ⟨gb320, 1, none⟩ = some (.slice Ao57 t317.length co57) := (blk_cell BK320.out 1).trans rfl; have hfz69_0 := blk_frozen BK320.out 0; have hfz69_1 := blk_frozen BK320.out 1) | ((with_reducible refine gate_callee (f := 8) rfl ?_); refine goesL_ (some 46) rfl rfl Try.func8 (by kernel_rfl) rfl #[.int .i64 a0, .agg #[.slice Ao52 t314.length co52, .slice Ao57 t317.length co57], .agg #[.slice Ao62 t321.length co62, .slice Ao68 t324.length co68]] rfl (by (try simp only [List.map_toArray, List.map_cons, List.map_nil]); first | done | rfl | (simp only [List.length_drop, List.length_take]; rfl)) ?_; (with_reducible refine (impl_EachTwo.calls k a0 _ _ t314 _ _ t317 _ _ t321 _ _ t324 t328 t331 t334 _ ?side1 ?side2 ?side3 ?side4 ?side5 ?side6 ?side7 ?side8 A25.out).mono ?_); (case side1 => refine (Kd.R_reads' (e := 3) (base := w.heap.size) (ok := fun k_ => ((((((((some k_ ≠ (.slice Ao57 t317.length co57 : Value).ownBlock ∧ some k_ ≠ (v295 : Value).ownBlock) ∧ some k_ ≠ (v298 : Value).ownBlock) ∧ some k_ ≠ (v301 : Value).ownBlock) ∧ some k_ ≠ (v304 : Value).ownBlock) ∧ some k_ ≠ (.slice Ao44 t306.length co44 : Value).ownBlock) ∧ some k_ ≠ (.slice Ao46 t309.length co46 : Value).ownBlock) ∧ some k_ ≠ (.slice Ao62 t321.length co62 : Value).ownBlock) ∧ some k_ ≠ (.slice Ao68 t324.length co68 : Value).ownBlock)) (n := t314.length) (c := co52) ?_).2.2; exact (by (with_reducible repeat (first | apply Kd.R_alloc | apply Kd.R_drewN | apply Kd.R_drew)); exact (far2 HO316.out BK327.out))); (case side2 => exact (Kd.R_reads' HO316.out).2.1); (case side3 => refine (Kd.R_reads' (e := 3) (base := w.heap.size) (ok := fun k_ => ((((((((some k_ ≠ (.slice Ao52 t314.length co52 : Value).ownBlock ∧ some k_ ≠ (v295 : Value).ownBlock) ∧ some k_ ≠ (v298 : Value).ownBlock) ∧ some k_ ≠ (v301 : Value).ownBlock) ∧ some k_ ≠ (v304 : Value).ownBlock) ∧ some k_ ≠ (.slice Ao44 t306.length co44 : Value).ownBlock) ∧ some k_ ≠ (.slice Ao46 t309.length co46 : Value).ownBlock) ∧ some k_ ≠ (.slice Ao62 t321.length co62 : Value).ownBlock) ∧ some k_ ≠ (.slice Ao68 t324.length co68 : Value).ownBlock)) (n := t317.length) (c := co57) ?_).2.2; exact (by (with_reducible repeat (first | apply Kd.R_alloc | apply Kd.R_drewN | apply Kd.R_drew)); exact (far2 HO319.out BK327.out))); (case side4 => exact (Kd.R_reads' HO319.out).2.1); (case side5 => refine (Kd.R_reads' (e := 3) (base := w.heap.size) (ok := fun k_ => ((((((((some k_ ≠ (.slice Ao68 t324.length co68 : Value).ownBlock ∧ some k_ ≠ (v295 : Value).ownBlock) ∧ some k_ ≠ (v298 : Value).ownBlock) ∧ some k_ ≠ (v301 : Value).ownBlock) ∧ some k_ ≠ (v304 : Value).ownBlock) ∧ some k_ ≠ (.slice Ao44 t306.length co44 : Value).ownBlock) ∧ some k_ ≠ (.slice Ao46 t309.length co46 : Value).ownBlock) ∧ some k_ ≠ (.slice Ao52 t314.length co52 : Value).ownBlock) ∧ some k_ ≠ (.slice Ao57 t317.length co57 : Value).ownBlock)) (n := t321.length) (c := co62) ?_).2.2; exact (by (with_reducible repeat (first | apply Kd.R_alloc | apply Kd.R_drewN | apply Kd.R_drew)); exact (far2 HO323.out BK327.out))); (case side6 => exact (Kd.R_reads' HO323.out).2.1); (case side7 => refine (Kd.R_reads' (e := 3) (base := w.heap.size) (ok := fun k_ => ((((((((some k_ ≠ (.slice Ao62 t321.length co62 : Value).ownBlock ∧ some k_ ≠ (v295 : Value).ownBlock) ∧ some k_ ≠ (v298 : Value).ownBlock) ∧ some k_ ≠ (v301 : Value).ownBlock) ∧ some k_ ≠ (v304 : Value).ownBlock) ∧ some k_ ≠ (.slice Ao44 t306.length co44 : Value).ownBlock) ∧ some k_ ≠ (.slice Ao46 t309.length co46 : Value).ownBlock) ∧ some k_ ≠ (.slice Ao52 t314.length co52 : Value).ownBlock) ∧ some k_ ≠ (.slice Ao57 t317.length co57 : Value).ownBlock)) (n := t324.length) (c := co68) ?_).2.2; exact (by (with_reducible repeat (first | apply Kd.R_alloc | apply Kd.R_drewN | apply Kd.R_drew)); exact (far2 HO326.out BK327.out))); (case side8 => exact (Kd.R_reads' HO326.out).2.1); rintro e w70 ⟨v329, v332, rfl, ho0, ho1, hb⟩; refine ⟨_, rfl, ?_⟩; have HO330 := Aside0.mk (Kd.R_lower (Kd.R_new' (Kd.R_new' (Kd.R_new' (Kd.R_new' (Kd.R_new' (Kd.R_new' (Kd.R_new' (Kd.R_new' (Kd.R_new' (Kd.R_new' ho0 (Kd.R_lt (by (with_reducible repeat (first | apply Kd.R_alloc | apply Kd.R_drewN | apply Kd.R_drew)); exact (far2 HO296.out BK327.out)))) (Kd.R_lt (by (with_reducible repeat (first | apply Kd.R_alloc | apply Kd.R_drewN | apply Kd.R_drew)); exact (far2 HO299.out BK327.out)))) (Kd.R_lt (by (with_reducible repeat (first | apply Kd.R_alloc | apply Kd.R_drewN | apply Kd.R_drew)); exact (far2 HO302.out BK327.out)))) (Kd.R_lt (by (with_reducible repeat (first | apply Kd.R_alloc | apply Kd.R_drewN | apply Kd.R_drew)); exact (far2 HO305.out BK327.out)))) (Kd.R_lt (by (with_reducible repeat (first | apply Kd.R_alloc | apply Kd.R_drewN | apply Kd.R_drew)); exact (far2 HO308.out BK327.out)))) (Kd.R_lt (by (with_reducible repeat (first | apply Kd.R_alloc | apply Kd.R_drewN | apply Kd.R_drew)); exact (far2 HO311.out BK327.out)))) (Kd.R_lt (by (with_reducible repeat (first | apply Kd.R_alloc | apply Kd.R_drewN | apply Kd.R_drew)); exact (far2 HO316.out BK327.out)))) (Kd.R_lt (by (with_reducible repeat (first | apply Kd.R_alloc | apply Kd.R_drewN | apply Kd.R_drew)); exact (far2 HO319.out BK327.out)))) (Kd.R_lt (by (with_reducible repeat (first | apply Kd.R_alloc | apply Kd.R_drewN | apply Kd.R_drew)); exact (far2 HO323.out BK327.out)))) (Kd.R_lt (by (with_reducible repeat (first | apply Kd.R_alloc | apply Kd.R_drewN | apply Kd.R_drew)); exact (far2 HO326.out BK327.out)))) (below_size (by repeat (first | (with_reducible first | exact HB.out | apply below_alloc | apply pw_below_drewN | apply below_drew1 | refine below_set ?_ GE290.out | refine below_set ?_ GE291.out | refine below_set ?_ GE313.out | refine below_set ?_ GE320.out | refine below_set ?_ GE327.out) | exact HB.out)))); have HO333 := Aside0.mk (Kd.R_lower (Kd.R_new' (Kd.R_new' (Kd.R_new' (Kd.R_new' (Kd.R_new' (Kd.R_new' (Kd.R_new' (Kd.R_new' (Kd.R_new' (Kd.R_new' ho1 (Kd.R_lt (by (with_reducible repeat (first | apply Kd.R_alloc | apply Kd.R_drewN | apply Kd.R_drew)); exact (far2 HO296.out BK327.out)))) (Kd.R_lt (by (with_reducible repeat (first | apply Kd.R_alloc | apply Kd.R_drewN | apply Kd.R_drew)); exact (far2 HO299.out BK327.out)))) (Kd.R_lt (by (with_reducible repeat (first | apply Kd.R_alloc | apply Kd.R_drewN | apply Kd.R_drew)); exact (far2 HO302.out BK327.out)))) (Kd.R_lt (by (with_reducible repeat (first | apply Kd.R_alloc | apply Kd.R_drewN | apply Kd.R_drew)); exact (far2 HO305.out BK327.out)))) (Kd.R_lt (by (with_reducible repeat (first | apply Kd.R_alloc | apply Kd.R_drewN | apply Kd.R_drew)); exact (far2 HO308.out BK327.out)))) (Kd.R_lt (by (with_reducible repeat (first | apply Kd.R_alloc | apply Kd.R_drewN | apply Kd.R_drew)); exact (far2 HO311.out BK327.out)))) (Kd.R_lt (by (with_reducible repeat (first | apply Kd.R_alloc | apply Kd.R_drewN | apply Kd.R_drew)); exact (far2 HO316.out BK327.out)))) (Kd.R_lt (by (with_reducible repeat (first | apply Kd.R_alloc | apply Kd.R_drewN | apply Kd.R_drew)); exact (far2 HO319.out BK327.out)))) (Kd.R_lt (by (with_reducible repeat (first | apply Kd.R_alloc | apply Kd.R_drewN | apply Kd.R_drew)); exact (far2 HO323.out BK327.out)))) (Kd.R_lt (by (with_reducible repeat (first | apply Kd.R_alloc | apply Kd.R_drewN | apply Kd.R_drew)); exact (far2 HO326.out BK327.out)))) (below_size (by repeat (first | (with_reducible first | exact HB.out | apply below_alloc | apply pw_below_drewN | apply below_drew1 | refine below_set ?_ GE290.out | refine below_set ?_ GE291.out | refine below_set ?_ GE313.out | refine below_set ?_ GE320.out | refine below_set ?_ GE327.out) | exact HB.out)))); replace HO296 := Aside0.mk (Kd.R_mono (Kd.R_told (Kd.R_told (Kd.R_old (by (with_reducible repeat (first | apply Kd.R_alloc | apply Kd.R_drewN | apply Kd.R_drew)); exact (far2 HO296.out BK327.out)) hb) (Kd.R_base ho0)) (Kd.R_base ho1)) (fun _ h_ => h_.1)); replace HO299 := Aside0.mk (Kd.R_mono (Kd.R_told (Kd.R_told (Kd.R_old (by (with_reducible repeat (first | apply Kd.R_alloc | apply Kd.R_drewN | apply Kd.R_drew)); exact (far2 HO299.out BK327.out)) hb) (Kd.R_base ho0)) (Kd.R_base ho1)) (fun _ h_ => h_.1)); replace HO302 := Aside0.mk (Kd.R_mono (Kd.R_told (Kd.R_told (Kd.R_old (by (with_reducible repeat (first | apply Kd.R_alloc | apply Kd.R_drewN | apply Kd.R_drew)); exact (far2 HO302.out BK327.out)) hb) (Kd.R_base ho0)) (Kd.R_base ho1)) (fun _ h_ => h_.1)); replace HO305 := Aside0.mk (Kd.R_mono (Kd.R_told (Kd.R_told (Kd.R_old (by (with_reducible repeat (first | apply Kd.R_alloc | apply Kd.R_drewN | apply Kd.R_drew)); exact (far2 HO305.out BK327.out)) hb) (Kd.R_base ho0)) (Kd.R_base ho1)) (fun _ h_ => h_.1)); replace HO308 := Aside0.mk (Kd.R_mono (Kd.R_told (Kd.R_told (Kd.R_old (by (with_reducible repeat (first | apply Kd.R_alloc | apply Kd.R_drewN | apply Kd.R_drew)); exact (far2 HO308.out BK327.out)) hb) (Kd.R_base ho0)) (Kd.R_base ho1)) (fun _ h_ => h_.1)); replace HO311 := Aside0.mk (Kd.R_mono (Kd.R_told (Kd.R_told (Kd.R_old (by (with_reducible repeat (first | apply Kd.R_alloc | apply Kd.R_drewN | apply Kd.R_drew)); exact (far2 HO311.out BK327.out)) hb) (Kd.R_base ho0)) (Kd.R_base ho1)) (fun _ h_ => h_.1)); replace HO316 := Aside0.mk (Kd.R_mono (Kd.R_told (Kd.R_told (Kd.R_old (by (with_reducible repeat (first | apply Kd.R_alloc | apply Kd.R_drewN | apply Kd.R_drew)); exact (far2 HO316.out BK327.out)) hb) (Kd.R_base ho0)) (Kd.R_base ho1)) (fun _ h_ => h_.1)); replace HO319 := Aside0.mk (Kd.R_mono (Kd.R_told (Kd.R_told (Kd.R_old (by (with_reducible repeat (first | apply Kd.R_alloc | apply Kd.R_drewN | apply Kd.R_drew)); exact (far2 HO319.out BK327.out)) hb) (Kd.R_base ho0)) (Kd.R_base ho1)) (fun _ h_ => h_.1)); replace HO323 := Aside0.mk (Kd.R_mono (Kd.R_told (Kd.R_told (Kd.R_old (by (with_reducible repeat (first | apply Kd.R_alloc | apply Kd.R_drewN | apply Kd.R_drew)); exact (far2 HO323.out BK327.out)) hb) (Kd.R_base ho0)) (Kd.R_base ho1)) (fun _ h_ => h_.1)); replace HO326 := Aside0.mk (Kd.R_mono (Kd.R_told (Kd.R_told (Kd.R_old (by (with_reducible repeat (first | apply Kd.R_alloc | apply Kd.R_drewN | apply Kd.R_drew)); exact (far2 HO326.out BK327.out)) hb) (Kd.R_base ho0)) (Kd.R_base ho1)) (fun _ h_ => h_.1)); replace BK290 := Aside0.mk (blk_below (g := gb290) (o := .cells #[.slice A1_0 l1_0.length c1_0, .slice A1_1 l1_1.length c1_1] 24 (0, 0)) (by (with_reducible repeat (first | refine blk_drewN ?_ _ | refine blk_drew ?_ | refine blk_alloc ?_ _)); refine blk_far ?_ NB290_327.out _; (with_reducible repeat (first | refine blk_drewN ?_ _ | refine blk_drew ?_ | refine blk_alloc ?_ _)); refine blk_far ?_ NB290_327.out _; (with_reducible repeat (first | refine blk_drewN ?_ _ | refine blk_drew ?_ | refine blk_alloc ?_ _)); exact BK290.out) hb); replace BK291 := Aside0.mk (blk_below (g := gb291) (o := .cells #[.slice A2_0 l2_0.length c2_0, .slice A2_1 l2_1.length c2_1] 24 (0, 0)) (by (with_reducible repeat (first | refine blk_drewN ?_ _ | refine blk_drew ?_ | refine blk_alloc ?_ _)); refine blk_far ?_ NB291_327.out _; (with_reducible repeat (first | refine blk_drewN ?_ _ | refine blk_drew ?_ | refine blk_alloc ?_ _)); refine blk_far ?_ NB291_327.out _; (with_reducible repeat (first | refine blk_drewN ?_ _ | refine blk_drew ?_ | refine blk_alloc ?_ _)); exact BK291.out) hb); replace BK313 := Aside0.mk (blk_below (g := gb313) (o := .cells #[.slice Ao44 t306.length co44, .slice Ao46 t309.length co46] 26 (0, 0)) (by (with_reducible repeat (first | refine blk_drewN ?_ _ | refine blk_drew ?_ | refine blk_alloc ?_ _)); refine blk_far ?_ NB313_327.out _; (with_reducible repeat (first | refine blk_drewN ?_ _ | refine blk_drew ?_ | refine blk_alloc ?_ _)); refine blk_far ?_ NB313_327.out _; (with_reducible repeat (first | refine blk_drewN ?_ _ | refine blk_drew ?_ | refine blk_alloc ?_ _)); exact BK313.out) hb); replace BK320 := Aside0.mk (blk_below (g := gb320) (o := .cells #[.slice Ao52 t314.length co52, .slice Ao57 t317.length co57] 26 (0, 0)) (by (with_reducible repeat (first | refine blk_drewN ?_ _ | refine blk_drew ?_ | refine blk_alloc ?_ _)); refine blk_far ?_ NB320_327.out _; (with_reducible repeat (first | refine blk_drewN ?_ _ | refine blk_drew ?_ | refine blk_alloc ?_ _)); refine blk_far ?_ NB320_327.out _; (with_reducible repeat (first | refine blk_drewN ?_ _ | refine blk_drew ?_ | refine blk_alloc ?_ _)); exact BK320.out) hb); replace BK327 := Aside0.mk (blk_below (g := gb327) (o := .cells #[.slice Ao62 t321.length co62, .slice Ao68 t324.length co68] 26 (0, 0)) (by (with_reducible repeat (first | refine blk_drewN ?_ _ | refine blk_drew ?_ | refine blk_alloc ?_ _)); refine blk_put (cs := #[.slice Ao62 t321.length co62, .slice none 0 0]) ?_ 1 _ rfl; (with_reducible repeat (first | refine blk_drewN ?_ _ | refine blk_drew ?_ | refine blk_alloc ?_ _)); refine blk_put (cs := #[.slice none 0 0, .slice none 0 0]) ?_ 0 _ rfl; (with_reducible repeat (first | refine blk_drewN ?_ _ | refine blk_drew ?_ | refine blk_alloc ?_ _)); exact BK327.out) hb); replace HB := Aside0.mk (below_step (by repeat (first | (with_reducible first | exact HB.out | apply below_alloc | apply pw_below_drewN | apply below_drew1 | refine below_set ?_ GE290.out | refine below_set ?_ GE291.out | refine below_set ?_ GE313.out | refine below_set ?_ GE320.out | refine below_set ?_ GE327.out) | exact HB.out)) hb); (try clear hb); (try clear hb2); (try clear hk); (try clear hi); (try clear ho0); (try clear ho1)) | ((with_reducible refine gate_dst (N := 12) rfl ?_); refine box_event ?hg (N := 12) ?hd (cs := #[.slice none 0 0, .slice none 0 0]) (t := 26) ?hr ?_; (case hd => rfl); (case hg => rfl); (case hr => first | (go_simp; done) | (go_simp; rfl)); intro gb335 hg w71 hbox hb; replace HO296 := Aside0.mk (Kd.R_below (RU HO296.out) hb); replace HO299 := Aside0.mk (Kd.R_below (RU HO299.out) hb); replace HO302 := Aside0.mk (Kd.R_below (RU HO302.out) hb); replace HO305 := Aside0.mk (Kd.R_below (RU HO305.out) hb); replace HO308 := Aside0.mk (Kd.R_below (RU HO308.out) hb); replace HO311 := Aside0.mk (Kd.R_below (RU HO311.out) hb); replace HO316 := Aside0.mk (Kd.R_below (RU HO316.out) hb); replace HO319 := Aside0.mk (Kd.R_below (RU HO319.out) hb); replace HO323 := Aside0.mk (Kd.R_below (RU HO323.out) hb); replace HO326 := Aside0.mk (Kd.R_below (RU HO326.out) hb); replace HO330 := Aside0.mk (Kd.R_below (RU HO330.out) hb); replace HO333 := Aside0.mk (Kd.R_below (RU HO333.out) hb); have BK335 := Aside0.mk (hbox); have GW335 := Aside0.mk ((by rw [hg]; exact (below_size (by repeat (first | (with_reducible first | exact HB.out | apply below_alloc | apply pw_below_drewN | apply below_drew1 | refine below_set ?_ GE290.out | refine below_set ?_ GE291.out | refine below_set ?_ GE313.out | refine below_set ?_ GE320.out | refine below_set ?_ GE327.out) | exact HB.out))) : w.heap.size ≤ gb335)); have GE335 := Aside0.mk ((by rw [hg]; exact (below_size (by repeat (first | (with_reducible first | exact HB.out | apply below_alloc | apply pw_below_drewN | apply below_drew1 | refine below_set ?_ GE290.out | refine below_set ?_ GE291.out | refine below_set ?_ GE313.out | refine below_set ?_ GE320.out | refine below_set ?_ GE327.out) | exact HB.out))) : w.heap.size ≤ gb335)); replace HB := Aside0.mk (below_step (by repeat (first | (with_reducible first | exact HB.out | apply below_alloc | apply pw_below_drewN | apply below_drew1 | refine below_set ?_ GE290.out | refine below_set ?_ GE291.out | refine below_set ?_ GE313.out | refine below_set ?_ GE320.out | refine below_set ?_ GE327.out) | exact HB.out)) hb); have NB290_335 := Aside0.mk ((by rw [hg]; exact Nat.ne_of_lt (blk_lt (g := gb290) (o := .cells #[.slice A1_0 l1_0.length c1_0, .slice A1_1 l1_1.length c1_1] 24 (0, 0)) (kU BK290.out)) : gb290 ≠ gb335)); have NB335_290 := Aside0.mk ((by rw [hg]; exact Nat.ne_of_gt (blk_lt (g := gb290) (o := .cells #[.slice A1_0 l1_0.length c1_0, .slice A1_1 l1_1.length c1_1] 24 (0, 0)) (kU BK290.out)) : gb335 ≠ gb290)); replace BK290 := Aside0.mk (blk_below (g := gb290) (o := .cells #[.slice A1_0 l1_0.length c1_0, .slice A1_1 l1_1.length c1_1] 24 (0, 0)) (kU BK290.out) hb); have NB291_335 := Aside0.mk ((by rw [hg]; exact Nat.ne_of_lt (blk_lt (g := gb291) (o := .cells #[.slice A2_0 l2_0.length c2_0, .slice A2_1 l2_1.length c2_1] 24 (0, 0)) (kU BK291.out)) : gb291 ≠ gb335)); have NB335_291 := Aside0.mk ((by rw [hg]; exact Nat.ne_of_gt (blk_lt (g := gb291) (o := .cells #[.slice A2_0 l2_0.length c2_0, .slice A2_1 l2_1.length c2_1] 24 (0, 0)) (kU BK291.out)) : gb335 ≠ gb291)); replace BK291 := Aside0.mk (blk_below (g := gb291) (o := .cells #[.slice A2_0 l2_0.length c2_0, .slice A2_1 l2_1.length c2_1] 24 (0, 0)) (kU BK291.out) hb); have NB313_335 := Aside0.mk ((by rw [hg]; exact Nat.ne_of_lt (blk_lt (g := gb313) (o := .cells #[.slice Ao44 t306.length co44, .slice Ao46 t309.length co46] 26 (0, 0)) (kU BK313.out)) : gb313 ≠ gb335)); have NB335_313 := Aside0.mk ((by rw [hg]; exact Nat.ne_of_gt (blk_lt (g := gb313) (o := .cells #[.slice Ao44 t306.length co44, .slice Ao46 t309.length co46] 26 (0, 0)) (kU BK313.out)) : gb335 ≠ gb313)); replace BK313 := Aside0.mk (blk_below (g := gb313) (o := .cells #[.slice Ao44 t306.length co44, .slice Ao46 t309.length co46] 26 (0, 0)) (kU BK313.out) hb); have NB320_335 := Aside0.mk ((by rw [hg]; exact Nat.ne_of_lt (blk_lt (g := gb320) (o := .cells #[.slice Ao52 t314.length co52, .slice Ao57 t317.length co57] 26 (0, 0)) (kU BK320.out)) : gb320 ≠ gb335)); have NB335_320 := Aside0.mk ((by rw [hg]; exact Nat.ne_of_gt (blk_lt (g := gb320) (o := .cells #[.slice Ao52 t314.length co52, .slice Ao57 t317.length co57] 26 (0, 0)) (kU BK320.out)) : gb335 ≠ gb320)); replace BK320 := Aside0.mk (blk_below (g := gb320) (o := .cells #[.slice Ao52 t314.length co52, .slice Ao57 t317.length co57] 26 (0, 0)) (kU BK320.out) hb); have NB327_335 := Aside0.mk ((by rw [hg]; exact Nat.ne_of_lt (blk_lt (g := gb327) (o := .cells #[.slice Ao62 t321.length co62, .slice Ao68 t324.length co68] 26 (0, 0)) (kU BK327.out)) : gb327 ≠ gb335)); have NB335_327 := Aside0.mk ((by rw [hg]; exact Nat.ne_of_gt (blk_lt (g := gb327) (o := .cells #[.slice Ao62 t321.length co62, .slice Ao68 t324.length co68] 26 (0, 0)) (kU BK327.out)) : gb335 ≠ gb327)); replace BK327 := Aside0.mk (blk_below (g := gb327) (o := .cells #[.slice Ao62 t321.length co62, .slice Ao68 t324.length co68] 26 (0, 0)) (kU BK327.out) hb); clear hb hbox hg; obtain ⟨Ao72, co72, eo72⟩ := Kd.R_slice HO330.out; subst eo72; have hnb73 := NB335_290.out; have hnc73 := NB290_335.out; have hnb74 := NB335_291.out; have hnc74 := NB291_335.out; have hnb75 := NB335_313.out; have hnc75 := NB313_335.out; have hnb76 := NB335_320.out; have hnc76 := NB320_335.out; have hnb77 := NB335_327.out; have hnc77 := NB327_335.out; have hcz78_0 : w71.cell? ⟨gb335, 0, none⟩ = some (.slice none 0 0) := (blk_cell BK335.out 0).trans rfl; have hcz78_1 : w71.cell? ⟨gb335, 1, none⟩ = some (.slice none 0 0) := (blk_cell BK335.out 1).trans rfl; have hfz78_0 := blk_frozen BK335.out 0; have hfz78_1 := blk_frozen BK335.out 1; obtain ⟨Ao79, co79, eo79⟩ := Kd.R_slice HO333.out; subst eo79))
   (try simp only [Act.put, List.setIfInBounds_toArray, List.set_cons_zero, List.set_cons_succ])
   go_cut [57] (fun v57 wc => ∃ (kq : Nat) (x57_25 : Bool), v57 = .bool x57_25 ∧ Aside0 (laws_FnExactEachTwo.j0 kq a0 t312 t334 x57_25 l1_0 l1_1 l2_0 l2_1 t306 t309 t314 t317 t321 t324 t328 t331 = some r) ∧ Aside0 (kq ≤ k) ∧ Aside0 (Kd.R (Kd.int .i64) 3 wc w.heap.size (fun k_ => some k_ ≠ ((.slice Ao46 t309.length co46) : Value).ownBlock ∧ some k_ ≠ ((.slice Ao52 t314.length co52) : Value).ownBlock ∧ some k_ ≠ ((.slice Ao57 t317.length co57) : Value).ownBlock ∧ some k_ ≠ ((.slice Ao62 t321.length co62) : Value).ownBlock ∧ some k_ ≠ ((.slice Ao68 t324.length co68) : Value).ownBlock ∧ some k_ ≠ ((.slice Ao72 t328.length co72) : Value).ownBlock ∧ some k_ ≠ ((.slice Ao79 t331.length co79) : Value).ownBlock) (.slice Ao44 t306.length co44) t306) ∧ Aside0 (Kd.R (Kd.int .i64) 3 wc w.heap.size (fun k_ => some k_ ≠ ((.slice Ao44 t306.length co44) : Value).ownBlock ∧ some k_ ≠ ((.slice Ao52 t314.length co52) : Value).ownBlock ∧ some k_ ≠ ((.slice Ao57 t317.length co57) : Value).ownBlock ∧ some k_ ≠ ((.slice Ao62 t321.length co62) : Value).ownBlock ∧ some k_ ≠ ((.slice Ao68 t324.length co68) : Value).ownBlock ∧ some k_ ≠ ((.slice Ao72 t328.length co72) : Value).ownBlock ∧ some k_ ≠ ((.slice Ao79 t331.length co79) : Value).ownBlock) (.slice Ao46 t309.length co46) t309) ∧ Aside0 (Kd.R (Kd.int .i64) 3 wc w.heap.size (fun k_ => some k_ ≠ ((.slice Ao44 t306.length co44) : Value).ownBlock ∧ some k_ ≠ ((.slice Ao46 t309.length co46) : Value).ownBlock ∧ some k_ ≠ ((.slice Ao57 t317.length co57) : Value).ownBlock ∧ some k_ ≠ ((.slice Ao62 t321.length co62) : Value).ownBlock ∧ some k_ ≠ ((.slice Ao68 t324.length co68) : Value).ownBlock ∧ some k_ ≠ ((.slice Ao72 t328.length co72) : Value).ownBlock ∧ some k_ ≠ ((.slice Ao79 t331.length co79) : Value).ownBlock) (.slice Ao52 t314.length co52) t314) ∧ Aside0 (Kd.R (Kd.int .i64) 3 wc w.heap.size (fun k_ => some k_ ≠ ((.slice Ao44 t306.length co44) : Value).ownBlock ∧ some k_ ≠ ((.slice Ao46 t309.length co46) : Value).ownBlock ∧ some k_ ≠ ((.slice Ao52 t314.length co52) : Value).ownBlock ∧ some k_ ≠ ((.slice Ao62 t321.length co62) : Value).ownBlock ∧ some k_ ≠ ((.slice Ao68 t324.length co68) : Value).ownBlock ∧ some k_ ≠ ((.slice Ao72 t328.length co72) : Value).ownBlock ∧ some k_ ≠ ((.slice Ao79 t331.length co79) : Value).ownBlock) (.slice Ao57 t317.length co57) t317) ∧ Aside0 (Kd.R (Kd.int .i64) 3 wc w.heap.size (fun k_ => some k_ ≠ ((.slice Ao44 t306.length co44) : Value).ownBlock ∧ some k_ ≠ ((.slice Ao46 t309.length co46) : Value).ownBlock ∧ some k_ ≠ ((.slice Ao52 t314.length co52) : Value).ownBlock ∧ some k_ ≠ ((.slice Ao57 t317.length co57) : Value).ownBlock ∧ some k_ ≠ ((.slice Ao68 t324.length co68) : Value).ownBlock ∧ some k_ ≠ ((.slice Ao72 t328.length co72) : Value).ownBlock ∧ some k_ ≠ ((.slice Ao79 t331.length co79) : Value).ownBlock) (.slice Ao62 t321.length co62) t321) ∧ Aside0 (Kd.R (Kd.int .i64) 3 wc w.heap.size (fun k_ => some k_ ≠ ((.slice Ao44 t306.length co44) : Value).ownBlock ∧ some k_ ≠ ((.slice Ao46 t309.length co46) : Value).ownBlock ∧ some k_ ≠ ((.slice Ao52 t314.length co52) : Value).ownBlock ∧ some k_ ≠ ((.slice Ao57 t317.length co57) : Value).ownBlock ∧ some k_ ≠ ((.slice Ao62 t321.length co62) : Value).ownBlock ∧ some k_ ≠ ((.slice Ao72 t328.length co72) : Value).ownBlock ∧ some k_ ≠ ((.slice Ao79 t331.length co79) : Value).ownBlock) (.slice Ao68 t324.length co68) t324) ∧ Aside0 (Kd.R (Kd.int .i64) 3 wc w.heap.size (fun k_ => some k_ ≠ ((.slice Ao44 t306.length co44) : Value).ownBlock ∧ some k_ ≠ ((.slice Ao46 t309.length co46) : Value).ownBlock ∧ some k_ ≠ ((.slice Ao52 t314.length co52) : Value).ownBlock ∧ some k_ ≠ ((.slice Ao57 t317.length co57) : Value).ownBlock ∧ some k_ ≠ ((.slice Ao62 t321.length co62) : Value).ownBlock ∧ some k_ ≠ ((.slice Ao68 t324.length co68) : Value).ownBlock ∧ some k_ ≠ ((.slice Ao79 t331.length co79) : Value).ownBlock) (.slice Ao72 t328.length co72) t328) ∧ Aside0 (Kd.R (Kd.int .i64) 3 wc w.heap.size (fun k_ => some k_ ≠ ((.slice Ao44 t306.length co44) : Value).ownBlock ∧ some k_ ≠ ((.slice Ao46 t309.length co46) : Value).ownBlock ∧ some k_ ≠ ((.slice Ao52 t314.length co52) : Value).ownBlock ∧ some k_ ≠ ((.slice Ao57 t317.length co57) : Value).ownBlock ∧ some k_ ≠ ((.slice Ao62 t321.length co62) : Value).ownBlock ∧ some k_ ≠ ((.slice Ao68 t324.length co68) : Value).ownBlock ∧ some k_ ≠ ((.slice Ao72 t328.length co72) : Value).ownBlock) (.slice Ao79 t331.length co79) t331) ∧ Aside0 (wc.heap[gb290]? = some (.cells #[(.slice A1_0 l1_0.length c1_0), (.slice A1_1 l1_1.length c1_1)] 24 (0, 0))) ∧ Aside0 (wc.heap[gb291]? = some (.cells #[(.slice A2_0 l2_0.length c2_0), (.slice A2_1 l2_1.length c2_1)] 24 (0, 0))) ∧ Aside0 (wc.heap[gb313]? = some (.cells #[(.slice Ao44 t306.length co44), (.slice Ao46 t309.length co46)] 26 (0, 0))) ∧ Aside0 (wc.heap[gb320]? = some (.cells #[(.slice Ao52 t314.length co52), (.slice Ao57 t317.length co57)] 26 (0, 0))) ∧ Aside0 (wc.heap[gb327]? = some (.cells #[(.slice Ao62 t321.length co62), (.slice Ao68 t324.length co68)] 26 (0, 0))) ∧ Aside0 (wc.heap[gb335]? = some (.cells #[(.slice Ao72 t328.length co72), (.slice Ao79 t331.length co79)] 26 (0, 0))) ∧ Aside0 (Below w.heap.size w wc))
   case first =>
    have H := HC26.out
    clear HC26
    replace H := Option.bind_eq_some_iff.mp H
    obtain ⟨t336, A800, H⟩ := H
    replace H : (if t336 = true then (laws_FnExactEachTwo.j0 k a0 t312 t334 (t334 != t312) l1_0 l1_1 l2_0 l2_1 t306 t309 t314 t317 t321 t324 t328 t331) else (laws_FnExactEachTwo.j0 k a0 t312 t334 true l1_0 l1_1 l2_0 l2_1 t306 t309 t314 t317 t321 t324 t328 t331)) = some r := H
    have A80 := Aside0.mk A800
    clear A800
    by_cases c81 : t336 = true
    ·
     subst c81
     have H1 : (laws_FnExactEachTwo.j0 k a0 t312 t334 (t334 != t312) l1_0 l1_1 l2_0 l2_1 t306 t309 t314 t317 t321 t324 t328 t331) = some r := by rw [if_pos rfl] at H; exact H
     clear H
     have H := H1
     clear H1
     have H' := Aside0.mk H
     clear H
     have hnb82 := NB335_290.out
     have hnc82 := NB290_335.out
     have hnb83 := NB335_291.out
     have hnc83 := NB291_335.out
     have hnb84 := NB335_313.out
     have hnc84 := NB313_335.out
     have hnb85 := NB335_320.out
     have hnc85 := NB320_335.out
     have hnb86 := NB335_327.out
     have hnc86 := NB327_335.out
     have hcz87_0 : w71.cell? ⟨gb335, 0, none⟩ = some (.slice none 0 0) := (blk_cell BK335.out 0).trans rfl
     have hcz87_1 : w71.cell? ⟨gb335, 1, none⟩ = some (.slice none 0 0) := (blk_cell BK335.out 1).trans rfl
     have hfz87_0 := blk_frozen BK335.out 0
     have hfz87_1 := blk_frozen BK335.out 1
     have hnb88 := NB313_290.out
     have hnc88 := NB290_313.out
     have hnb89 := NB313_291.out
     have hnc89 := NB291_313.out
     have hnb90 := NB313_320.out
     have hnc90 := NB320_313.out
     have hnb91 := NB313_327.out
     have hnc91 := NB327_313.out
     have hcz92_0 : w71.cell? ⟨gb313, 0, none⟩ = some (.slice Ao44 t306.length co44) := (blk_cell BK313.out 0).trans rfl
     have hcz92_1 : w71.cell? ⟨gb313, 1, none⟩ = some (.slice Ao46 t309.length co46) := (blk_cell BK313.out 1).trans rfl
     have hfz92_0 := blk_frozen BK313.out 0
     have hfz92_1 := blk_frozen BK313.out 1
     go_wp2_with (first | ((with_reducible refine gate_callee (f := 9) rfl ?_); refine goesL_ (some 51) rfl rfl Try.func9 (by kernel_rfl) rfl #[.agg #[.slice Ao72 t328.length co72, .slice Ao79 t331.length co79], .agg #[.slice Ao44 t306.length co44, .slice Ao46 t309.length co46]] rfl (by (try simp only [List.map_toArray, List.map_cons, List.map_nil]); first | done | rfl | (simp only [List.length_drop, List.length_take]; rfl)) ?_; (with_reducible refine (laws_eqArray.calls k _ _ t328 _ _ t331 _ _ t306 _ _ t309 true _ ?side1 ?side2 ?side3 ?side4 ?side5 ?side6 ?side7 ?side8 A80.out).mono ?_); (case side1 => refine (Kd.R_reads' (e := 3) (base := w.heap.size) (ok := fun k_ => ((((((((((some k_ ≠ (.slice Ao79 t331.length co79 : Value).ownBlock ∧ some k_ ≠ (v295 : Value).ownBlock) ∧ some k_ ≠ (v298 : Value).ownBlock) ∧ some k_ ≠ (v301 : Value).ownBlock) ∧ some k_ ≠ (v304 : Value).ownBlock) ∧ some k_ ≠ (.slice Ao44 t306.length co44 : Value).ownBlock) ∧ some k_ ≠ (.slice Ao46 t309.length co46 : Value).ownBlock) ∧ some k_ ≠ (.slice Ao52 t314.length co52 : Value).ownBlock) ∧ some k_ ≠ (.slice Ao57 t317.length co57 : Value).ownBlock) ∧ some k_ ≠ (.slice Ao62 t321.length co62 : Value).ownBlock) ∧ some k_ ≠ (.slice Ao68 t324.length co68 : Value).ownBlock)) (n := t328.length) (c := co72) ?_).2.2; exact (by (with_reducible repeat (first | apply Kd.R_alloc | apply Kd.R_drewN | apply Kd.R_drew)); exact (far2 HO330.out BK335.out))); (case side2 => exact (Kd.R_reads' HO330.out).2.1); (case side3 => refine (Kd.R_reads' (e := 3) (base := w.heap.size) (ok := fun k_ => ((((((((((some k_ ≠ (.slice Ao72 t328.length co72 : Value).ownBlock ∧ some k_ ≠ (v295 : Value).ownBlock) ∧ some k_ ≠ (v298 : Value).ownBlock) ∧ some k_ ≠ (v301 : Value).ownBlock) ∧ some k_ ≠ (v304 : Value).ownBlock) ∧ some k_ ≠ (.slice Ao44 t306.length co44 : Value).ownBlock) ∧ some k_ ≠ (.slice Ao46 t309.length co46 : Value).ownBlock) ∧ some k_ ≠ (.slice Ao52 t314.length co52 : Value).ownBlock) ∧ some k_ ≠ (.slice Ao57 t317.length co57 : Value).ownBlock) ∧ some k_ ≠ (.slice Ao62 t321.length co62 : Value).ownBlock) ∧ some k_ ≠ (.slice Ao68 t324.length co68 : Value).ownBlock)) (n := t331.length) (c := co79) ?_).2.2; exact (by (with_reducible repeat (first | apply Kd.R_alloc | apply Kd.R_drewN | apply Kd.R_drew)); exact (far2 HO333.out BK335.out))); (case side4 => exact (Kd.R_reads' HO333.out).2.1); (case side5 => refine (Kd.R_reads' (e := 3) (base := w.heap.size) (ok := fun k_ => (((((((some k_ ≠ (v295 : Value).ownBlock ∧ (some k_ ≠ (v298 : Value).ownBlock ∧ (some k_ ≠ (v301 : Value).ownBlock ∧ (some k_ ≠ (v304 : Value).ownBlock ∧ some k_ ≠ (.slice Ao46 t309.length co46 : Value).ownBlock)))) ∧ some k_ ≠ (.slice Ao52 t314.length co52 : Value).ownBlock) ∧ some k_ ≠ (.slice Ao57 t317.length co57 : Value).ownBlock) ∧ some k_ ≠ (.slice Ao62 t321.length co62 : Value).ownBlock) ∧ some k_ ≠ (.slice Ao68 t324.length co68 : Value).ownBlock) ∧ some k_ ≠ (.slice Ao72 t328.length co72 : Value).ownBlock) ∧ some k_ ≠ (.slice Ao79 t331.length co79 : Value).ownBlock)) (n := t306.length) (c := co44) ?_).2.2; exact (by (with_reducible repeat (first | apply Kd.R_alloc | apply Kd.R_drewN | apply Kd.R_drew)); exact (far2 HO308.out BK335.out))); (case side6 => exact (Kd.R_reads' HO308.out).2.1); (case side7 => refine (Kd.R_reads' (e := 3) (base := w.heap.size) (ok := fun k_ => (((((((some k_ ≠ (v295 : Value).ownBlock ∧ (some k_ ≠ (v298 : Value).ownBlock ∧ (some k_ ≠ (v301 : Value).ownBlock ∧ (some k_ ≠ (v304 : Value).ownBlock ∧ some k_ ≠ (.slice Ao44 t306.length co44 : Value).ownBlock)))) ∧ some k_ ≠ (.slice Ao52 t314.length co52 : Value).ownBlock) ∧ some k_ ≠ (.slice Ao57 t317.length co57 : Value).ownBlock) ∧ some k_ ≠ (.slice Ao62 t321.length co62 : Value).ownBlock) ∧ some k_ ≠ (.slice Ao68 t324.length co68 : Value).ownBlock) ∧ some k_ ≠ (.slice Ao72 t328.length co72 : Value).ownBlock) ∧ some k_ ≠ (.slice Ao79 t331.length co79 : Value).ownBlock)) (n := t309.length) (c := co46) ?_).2.2; exact (by (with_reducible repeat (first | apply Kd.R_alloc | apply Kd.R_drewN | apply Kd.R_drew)); exact (far2 HO311.out BK335.out))); (case side8 => exact (Kd.R_reads' HO311.out).2.1); rintro e w93 ⟨rfl, hb⟩; refine ⟨_, rfl, ?_⟩; replace HO296 := Aside0.mk (Kd.R_below (by (with_reducible repeat (first | apply Kd.R_alloc | apply Kd.R_drewN | apply Kd.R_drew)); exact (far2 HO296.out BK335.out)) hb); replace HO299 := Aside0.mk (Kd.R_below (by (with_reducible repeat (first | apply Kd.R_alloc | apply Kd.R_drewN | apply Kd.R_drew)); exact (far2 HO299.out BK335.out)) hb); replace HO302 := Aside0.mk (Kd.R_below (by (with_reducible repeat (first | apply Kd.R_alloc | apply Kd.R_drewN | apply Kd.R_drew)); exact (far2 HO302.out BK335.out)) hb); replace HO305 := Aside0.mk (Kd.R_below (by (with_reducible repeat (first | apply Kd.R_alloc | apply Kd.R_drewN | apply Kd.R_drew)); exact (far2 HO305.out BK335.out)) hb); replace HO308 := Aside0.mk (Kd.R_below (by (with_reducible repeat (first | apply Kd.R_alloc | apply Kd.R_drewN | apply Kd.R_drew)); exact (far2 HO308.out BK335.out)) hb); replace HO311 := Aside0.mk (Kd.R_below (by (with_reducible repeat (first | apply Kd.R_alloc | apply Kd.R_drewN | apply Kd.R_drew)); exact (far2 HO311.out BK335.out)) hb); replace HO316 := Aside0.mk (Kd.R_below (by (with_reducible repeat (first | apply Kd.R_alloc | apply Kd.R_drewN | apply Kd.R_drew)); exact (far2 HO316.out BK335.out)) hb); replace HO319 := Aside0.mk (Kd.R_below (by (with_reducible repeat (first | apply Kd.R_alloc | apply Kd.R_drewN | apply Kd.R_drew)); exact (far2 HO319.out BK335.out)) hb); replace HO323 := Aside0.mk (Kd.R_below (by (with_reducible repeat (first | apply Kd.R_alloc | apply Kd.R_drewN | apply Kd.R_drew)); exact (far2 HO323.out BK335.out)) hb); replace HO326 := Aside0.mk (Kd.R_below (by (with_reducible repeat (first | apply Kd.R_alloc | apply Kd.R_drewN | apply Kd.R_drew)); exact (far2 HO326.out BK335.out)) hb); replace HO330 := Aside0.mk (Kd.R_below (by (with_reducible repeat (first | apply Kd.R_alloc | apply Kd.R_drewN | apply Kd.R_drew)); exact (far2 HO330.out BK335.out)) hb); replace HO333 := Aside0.mk (Kd.R_below (by (with_reducible repeat (first | apply Kd.R_alloc | apply Kd.R_drewN | apply Kd.R_drew)); exact (far2 HO333.out BK335.out)) hb); replace BK290 := Aside0.mk (blk_below (g := gb290) (o := .cells #[.slice A1_0 l1_0.length c1_0, .slice A1_1 l1_1.length c1_1] 24 (0, 0)) (by (with_reducible repeat (first | refine blk_drewN ?_ _ | refine blk_drew ?_ | refine blk_alloc ?_ _)); refine blk_far ?_ NB290_335.out _; (with_reducible repeat (first | refine blk_drewN ?_ _ | refine blk_drew ?_ | refine blk_alloc ?_ _)); refine blk_far ?_ NB290_335.out _; (with_reducible repeat (first | refine blk_drewN ?_ _ | refine blk_drew ?_ | refine blk_alloc ?_ _)); exact BK290.out) hb); replace BK291 := Aside0.mk (blk_below (g := gb291) (o := .cells #[.slice A2_0 l2_0.length c2_0, .slice A2_1 l2_1.length c2_1] 24 (0, 0)) (by (with_reducible repeat (first | refine blk_drewN ?_ _ | refine blk_drew ?_ | refine blk_alloc ?_ _)); refine blk_far ?_ NB291_335.out _; (with_reducible repeat (first | refine blk_drewN ?_ _ | refine blk_drew ?_ | refine blk_alloc ?_ _)); refine blk_far ?_ NB291_335.out _; (with_reducible repeat (first | refine blk_drewN ?_ _ | refine blk_drew ?_ | refine blk_alloc ?_ _)); exact BK291.out) hb); replace BK313 := Aside0.mk (blk_below (g := gb313) (o := .cells #[.slice Ao44 t306.length co44, .slice Ao46 t309.length co46] 26 (0, 0)) (by (with_reducible repeat (first | refine blk_drewN ?_ _ | refine blk_drew ?_ | refine blk_alloc ?_ _)); refine blk_far ?_ NB313_335.out _; (with_reducible repeat (first | refine blk_drewN ?_ _ | refine blk_drew ?_ | refine blk_alloc ?_ _)); refine blk_far ?_ NB313_335.out _; (with_reducible repeat (first | refine blk_drewN ?_ _ | refine blk_drew ?_ | refine blk_alloc ?_ _)); exact BK313.out) hb); replace BK320 := Aside0.mk (blk_below (g := gb320) (o := .cells #[.slice Ao52 t314.length co52, .slice Ao57 t317.length co57] 26 (0, 0)) (by (with_reducible repeat (first | refine blk_drewN ?_ _ | refine blk_drew ?_ | refine blk_alloc ?_ _)); refine blk_far ?_ NB320_335.out _; (with_reducible repeat (first | refine blk_drewN ?_ _ | refine blk_drew ?_ | refine blk_alloc ?_ _)); refine blk_far ?_ NB320_335.out _; (with_reducible repeat (first | refine blk_drewN ?_ _ | refine blk_drew ?_ | refine blk_alloc ?_ _)); exact BK320.out) hb); replace BK327 := Aside0.mk (blk_below (g := gb327) (o := .cells #[.slice Ao62 t321.length co62, .slice Ao68 t324.length co68] 26 (0, 0)) (by (with_reducible repeat (first | refine blk_drewN ?_ _ | refine blk_drew ?_ | refine blk_alloc ?_ _)); refine blk_far ?_ NB327_335.out _; (with_reducible repeat (first | refine blk_drewN ?_ _ | refine blk_drew ?_ | refine blk_alloc ?_ _)); refine blk_far ?_ NB327_335.out _; (with_reducible repeat (first | refine blk_drewN ?_ _ | refine blk_drew ?_ | refine blk_alloc ?_ _)); exact BK327.out) hb); replace BK335 := Aside0.mk (blk_below (g := gb335) (o := .cells #[.slice Ao72 t328.length co72, .slice Ao79 t331.length co79] 26 (0, 0)) (by (with_reducible repeat (first | refine blk_drewN ?_ _ | refine blk_drew ?_ | refine blk_alloc ?_ _)); refine blk_put (cs := #[.slice Ao72 t328.length co72, .slice none 0 0]) ?_ 1 _ rfl; (with_reducible repeat (first | refine blk_drewN ?_ _ | refine blk_drew ?_ | refine blk_alloc ?_ _)); refine blk_put (cs := #[.slice none 0 0, .slice none 0 0]) ?_ 0 _ rfl; (with_reducible repeat (first | refine blk_drewN ?_ _ | refine blk_drew ?_ | refine blk_alloc ?_ _)); exact BK335.out) hb); replace HB := Aside0.mk (below_step (by repeat (first | (with_reducible first | exact HB.out | apply below_alloc | apply pw_below_drewN | apply below_drew1 | refine below_set ?_ GE290.out | refine below_set ?_ GE291.out | refine below_set ?_ GE313.out | refine below_set ?_ GE320.out | refine below_set ?_ GE327.out | refine below_set ?_ GE335.out) | exact HB.out)) hb); (try clear hb); (try clear hb2); (try clear hk); (try clear hi)))
     go_meet
     case rel => exact ⟨_, ((t334 != t312)), (by first | rfl | (simp; done) | (simp [*]; done)), H', ⟨by first | omega | exact Nat.le_refl _⟩, ⟨by (with_reducible repeat (first | apply Kd.R_alloc | apply Kd.R_drewN | apply Kd.R_drew)); exact Kd.R_mono HO308.out (fun _ hk => ⟨hk.1.1.1.1.1.1.2.2.2.2, ⟨hk.1.1.1.1.1.2, ⟨hk.1.1.1.1.2, ⟨hk.1.1.1.2, ⟨hk.1.1.2, ⟨hk.1.2, hk.2⟩⟩⟩⟩⟩⟩)⟩, ⟨by (with_reducible repeat (first | apply Kd.R_alloc | apply Kd.R_drewN | apply Kd.R_drew)); exact Kd.R_mono HO311.out (fun _ hk => ⟨hk.1.1.1.1.1.1.2.2.2.2, ⟨hk.1.1.1.1.1.2, ⟨hk.1.1.1.1.2, ⟨hk.1.1.1.2, ⟨hk.1.1.2, ⟨hk.1.2, hk.2⟩⟩⟩⟩⟩⟩)⟩, ⟨by (with_reducible repeat (first | apply Kd.R_alloc | apply Kd.R_drewN | apply Kd.R_drew)); exact Kd.R_mono HO316.out (fun _ hk => ⟨hk.1.1.1.1.1.2, ⟨hk.1.1.1.1.2, ⟨hk.1.1.1.1.1.1.1.1.1.1, ⟨hk.1.1.1.2, ⟨hk.1.1.2, ⟨hk.1.2, hk.2⟩⟩⟩⟩⟩⟩)⟩, ⟨by (with_reducible repeat (first | apply Kd.R_alloc | apply Kd.R_drewN | apply Kd.R_drew)); exact Kd.R_mono HO319.out (fun _ hk => ⟨hk.1.1.1.1.1.2, ⟨hk.1.1.1.1.2, ⟨hk.1.1.1.1.1.1.1.1.1.1, ⟨hk.1.1.1.2, ⟨hk.1.1.2, ⟨hk.1.2, hk.2⟩⟩⟩⟩⟩⟩)⟩, ⟨by (with_reducible repeat (first | apply Kd.R_alloc | apply Kd.R_drewN | apply Kd.R_drew)); exact Kd.R_mono HO323.out (fun _ hk => ⟨hk.1.1.1.1.1.2, ⟨hk.1.1.1.1.2, ⟨hk.1.1.1.2, ⟨hk.1.1.2, ⟨hk.1.1.1.1.1.1.1.1.1.1, ⟨hk.1.2, hk.2⟩⟩⟩⟩⟩⟩)⟩, ⟨by (with_reducible repeat (first | apply Kd.R_alloc | apply Kd.R_drewN | apply Kd.R_drew)); exact Kd.R_mono HO326.out (fun _ hk => ⟨hk.1.1.1.1.1.2, ⟨hk.1.1.1.1.2, ⟨hk.1.1.1.2, ⟨hk.1.1.2, ⟨hk.1.1.1.1.1.1.1.1.1.1, ⟨hk.1.2, hk.2⟩⟩⟩⟩⟩⟩)⟩, ⟨by (with_reducible repeat (first | apply Kd.R_alloc | apply Kd.R_drewN | apply Kd.R_drew)); exact Kd.R_mono HO330.out (fun _ hk => ⟨hk.1.1.1.1.1.2, ⟨hk.1.1.1.1.2, ⟨hk.1.1.1.2, ⟨hk.1.1.2, ⟨hk.1.2, ⟨hk.2, hk.1.1.1.1.1.1.1.1.1.1⟩⟩⟩⟩⟩⟩)⟩, ⟨by (with_reducible repeat (first | apply Kd.R_alloc | apply Kd.R_drewN | apply Kd.R_drew)); exact Kd.R_mono HO333.out (fun _ hk => ⟨hk.1.1.1.1.1.2, ⟨hk.1.1.1.1.2, ⟨hk.1.1.1.2, ⟨hk.1.1.2, ⟨hk.1.2, ⟨hk.2, hk.1.1.1.1.1.1.1.1.1.1⟩⟩⟩⟩⟩⟩)⟩, ⟨by (with_reducible repeat (first | refine blk_drewN ?_ _ | refine blk_drew ?_ | refine blk_alloc ?_ _)); exact BK290.out⟩, ⟨by (with_reducible repeat (first | refine blk_drewN ?_ _ | refine blk_drew ?_ | refine blk_alloc ?_ _)); exact BK291.out⟩, ⟨by (with_reducible repeat (first | refine blk_drewN ?_ _ | refine blk_drew ?_ | refine blk_alloc ?_ _)); exact BK313.out⟩, ⟨by (with_reducible repeat (first | refine blk_drewN ?_ _ | refine blk_drew ?_ | refine blk_alloc ?_ _)); exact BK320.out⟩, ⟨by (with_reducible repeat (first | refine blk_drewN ?_ _ | refine blk_drew ?_ | refine blk_alloc ?_ _)); exact BK327.out⟩, ⟨by (with_reducible repeat (first | refine blk_drewN ?_ _ | refine blk_drew ?_ | refine blk_alloc ?_ _)); exact BK335.out⟩, ⟨by repeat (first | (with_reducible first | exact HB.out | apply below_alloc | apply pw_below_drewN | apply below_drew1 | refine below_set ?_ GE290.out | refine below_set ?_ GE291.out | refine below_set ?_ GE313.out | refine below_set ?_ GE320.out | refine below_set ?_ GE327.out | refine below_set ?_ GE335.out) | exact HB.out)⟩⟩
    ·
     replace c81 := Bool.eq_false_iff.mpr c81
     subst c81
     have H1 : (laws_FnExactEachTwo.j0 k a0 t312 t334 true l1_0 l1_1 l2_0 l2_1 t306 t309 t314 t317 t321 t324 t328 t331) = some r := by rw [if_neg (show ¬ (false = true) by decide)] at H; exact H
     clear H
     have H := H1
     clear H1
     have hz_ : ∀ kz, laws_FnExactEachTwo.j0 kz a0 t312 t334 true l1_0 l1_1 l2_0 l2_1 t306 t309 t314 t317 t321 t324 t328 t331 = some r → r = false := by intro kz hz; cases kz with | zero => exact absurd hz (by simp [laws_FnExactEachTwo.j0]) | succ kz => simp only [laws_FnExactEachTwo.j0] at hz; first | (rw [if_pos rfl] at hz; exact (Option.some.inj hz).symm) | (simp at hz; exact hz.symm) | (simp at hz; exact hz)
     exact absurd (HT.out.symm.trans (hz_ _ H)) (by decide)
   case rest =>
    clear HC26
    try clear c1
    try clear c2
    try clear p2
    try clear c4
    try clear c5
    try clear c6
    try clear c7
    try clear c8
    try clear c9
    try clear c48
    try clear c53
    try clear c54
    try clear c55
    try clear c58
    try clear c63
    try clear c64
    try clear c65
    try clear c66
    try clear c73
    try clear c74
    try clear c75
    try clear c76
    try clear c77
    try clear c81
    try clear c82
    try clear c83
    try clear c84
    try clear c85
    try clear c86
    try clear c88
    try clear c89
    try clear c90
    try clear c91
    try clear hcz49_0
    try clear hcz49_1
    try clear hcz56_0
    try clear hcz56_1
    try clear hcz59_0
    try clear hcz59_1
    try clear hcz67_0
    try clear hcz67_1
    try clear hcz69_0
    try clear hcz69_1
    try clear hcz78_0
    try clear hcz78_1
    try clear hcz87_0
    try clear hcz87_1
    try clear hcz92_0
    try clear hcz92_1
    try clear hfz49_0
    try clear hfz49_1
    try clear hfz56_0
    try clear hfz56_1
    try clear hfz59_0
    try clear hfz59_1
    try clear hfz67_0
    try clear hfz67_1
    try clear hfz69_0
    try clear hfz69_1
    try clear hfz78_0
    try clear hfz78_1
    try clear hfz87_0
    try clear hfz87_1
    try clear hfz92_0
    try clear hfz92_1
    obtain ⟨kq, x57_25, rfl, HA, HJ25, HO_314000, HO_314001, HO_321000, HO_321001, HO_328000, HO_328001, HO_336000, HO_336001, BK290, BK291, BK313, BK320, BK327, BK335, HB⟩ := hcut
    cases kq with
    | zero => exact absurd HA.out (by simp [laws_FnExactEachTwo.j0])
    | succ kj25 =>
     have H := HA.out
     clear HA
     simp only [laws_FnExactEachTwo.j0] at H
     by_cases c94 : x57_25 = true
     ·
      subst c94
      have H1 : (some false) = some r := by rw [if_pos rfl] at H; exact H
      clear H
      have H := H1
      clear H1
      obtain rfl := Option.some.inj H
      exact absurd HT.out (by decide)
     ·
      replace c94 := Bool.eq_false_iff.mpr c94
      subst c94
      have H1 : ((laws_toArray.f kj25 l1_0 l1_1).bind fun bt337 => ((laws_eqArray.f kj25 t314 t317 bt337.1 bt337.2).bind fun t343 => (if t343 = true then ((laws_toArray.f kj25 l2_0 l2_1).bind fun bt344 => ((laws_eqArray.f kj25 t321 t324 bt344.1 bt344.2).bind fun t350 => (if t350 = true then ((laws_markArray.f kj25 t314 t317 1).bind fun bt351 => ((laws_markArray.f kj25 t321 t324 bt351.1).bind fun bt354 => (if bt354.1 < 0 then (laws_FnExactEachTwo.j1 kj25 a0 t312 true l1_0 l1_1 l2_0 l2_1 t306 t309 t328 t331) else ((laws_eqArray.f kj25 t328 t331 t306 t309).bind fun t357 => (if t357 = true then (laws_FnExactEachTwo.j1 kj25 a0 t312 (t334 != t312) l1_0 l1_1 l2_0 l2_1 t306 t309 t328 t331) else (laws_FnExactEachTwo.j1 kj25 a0 t312 true l1_0 l1_1 l2_0 l2_1 t306 t309 t328 t331)))))) else (some false)))) else (some false)))) = some r := by rw [if_neg (show ¬ (false = true) by decide)] at H; exact H
      clear H
      have H := H1
      clear H1
      replace H := Option.bind_eq_some_iff.mp H
      obtain ⟨⟨t337, t340⟩, A950, H⟩ := H
      replace H : ((laws_eqArray.f kj25 t314 t317 t337 t340).bind fun t343 => (if t343 = true then ((laws_toArray.f kj25 l2_0 l2_1).bind fun bt344 => ((laws_eqArray.f kj25 t321 t324 bt344.1 bt344.2).bind fun t350 => (if t350 = true then ((laws_markArray.f kj25 t314 t317 1).bind fun bt351 => ((laws_markArray.f kj25 t321 t324 bt351.1).bind fun bt354 => (if bt354.1 < 0 then (laws_FnExactEachTwo.j1 kj25 a0 t312 true l1_0 l1_1 l2_0 l2_1 t306 t309 t328 t331) else ((laws_eqArray.f kj25 t328 t331 t306 t309).bind fun t357 => (if t357 = true then (laws_FnExactEachTwo.j1 kj25 a0 t312 (t334 != t312) l1_0 l1_1 l2_0 l2_1 t306 t309 t328 t331) else (laws_FnExactEachTwo.j1 kj25 a0 t312 true l1_0 l1_1 l2_0 l2_1 t306 t309 t328 t331)))))) else (some false)))) else (some false))) = some r := H
      have A95 := Aside0.mk A950
      clear A950
      replace H := Option.bind_eq_some_iff.mp H
      obtain ⟨t343, A960, H⟩ := H
      replace H : (if t343 = true then ((laws_toArray.f kj25 l2_0 l2_1).bind fun bt344 => ((laws_eqArray.f kj25 t321 t324 bt344.1 bt344.2).bind fun t350 => (if t350 = true then ((laws_markArray.f kj25 t314 t317 1).bind fun bt351 => ((laws_markArray.f kj25 t321 t324 bt351.1).bind fun bt354 => (if bt354.1 < 0 then (laws_FnExactEachTwo.j1 kj25 a0 t312 true l1_0 l1_1 l2_0 l2_1 t306 t309 t328 t331) else ((laws_eqArray.f kj25 t328 t331 t306 t309).bind fun t357 => (if t357 = true then (laws_FnExactEachTwo.j1 kj25 a0 t312 (t334 != t312) l1_0 l1_1 l2_0 l2_1 t306 t309 t328 t331) else (laws_FnExactEachTwo.j1 kj25 a0 t312 true l1_0 l1_1 l2_0 l2_1 t306 t309 t328 t331)))))) else (some false)))) else (some false)) = some r := H
      have A96 := Aside0.mk A960
      clear A960
      by_cases c97 : t343 = true
      ·
       subst c97
       have H1 : ((laws_toArray.f kj25 l2_0 l2_1).bind fun bt344 => ((laws_eqArray.f kj25 t321 t324 bt344.1 bt344.2).bind fun t350 => (if t350 = true then ((laws_markArray.f kj25 t314 t317 1).bind fun bt351 => ((laws_markArray.f kj25 t321 t324 bt351.1).bind fun bt354 => (if bt354.1 < 0 then (laws_FnExactEachTwo.j1 kj25 a0 t312 true l1_0 l1_1 l2_0 l2_1 t306 t309 t328 t331) else ((laws_eqArray.f kj25 t328 t331 t306 t309).bind fun t357 => (if t357 = true then (laws_FnExactEachTwo.j1 kj25 a0 t312 (t334 != t312) l1_0 l1_1 l2_0 l2_1 t306 t309 t328 t331) else (laws_FnExactEachTwo.j1 kj25 a0 t312 true l1_0 l1_1 l2_0 l2_1 t306 t309 t328 t331)))))) else (some false)))) = some r := by rw [if_pos rfl] at H; exact H
       clear H
       have H := H1
       clear H1
       replace H := Option.bind_eq_some_iff.mp H
       obtain ⟨⟨t344, t347⟩, A980, H⟩ := H
       replace H : ((laws_eqArray.f kj25 t321 t324 t344 t347).bind fun t350 => (if t350 = true then ((laws_markArray.f kj25 t314 t317 1).bind fun bt351 => ((laws_markArray.f kj25 t321 t324 bt351.1).bind fun bt354 => (if bt354.1 < 0 then (laws_FnExactEachTwo.j1 kj25 a0 t312 true l1_0 l1_1 l2_0 l2_1 t306 t309 t328 t331) else ((laws_eqArray.f kj25 t328 t331 t306 t309).bind fun t357 => (if t357 = true then (laws_FnExactEachTwo.j1 kj25 a0 t312 (t334 != t312) l1_0 l1_1 l2_0 l2_1 t306 t309 t328 t331) else (laws_FnExactEachTwo.j1 kj25 a0 t312 true l1_0 l1_1 l2_0 l2_1 t306 t309 t328 t331)))))) else (some false))) = some r := H
       have A98 := Aside0.mk A980
       clear A980
       replace H := Option.bind_eq_some_iff.mp H
       obtain ⟨t350, A990, H⟩ := H
       replace H : (if t350 = true then ((laws_markArray.f kj25 t314 t317 1).bind fun bt351 => ((laws_markArray.f kj25 t321 t324 bt351.1).bind fun bt354 => (if bt354.1 < 0 then (laws_FnExactEachTwo.j1 kj25 a0 t312 true l1_0 l1_1 l2_0 l2_1 t306 t309 t328 t331) else ((laws_eqArray.f kj25 t328 t331 t306 t309).bind fun t357 => (if t357 = true then (laws_FnExactEachTwo.j1 kj25 a0 t312 (t334 != t312) l1_0 l1_1 l2_0 l2_1 t306 t309 t328 t331) else (laws_FnExactEachTwo.j1 kj25 a0 t312 true l1_0 l1_1 l2_0 l2_1 t306 t309 t328 t331)))))) else (some false)) = some r := H
       have A99 := Aside0.mk A990
       clear A990
       by_cases c100 : t350 = true
       ·
        subst c100
        have H1 : ((laws_markArray.f kj25 t314 t317 1).bind fun bt351 => ((laws_markArray.f kj25 t321 t324 bt351.1).bind fun bt354 => (if bt354.1 < 0 then (laws_FnExactEachTwo.j1 kj25 a0 t312 true l1_0 l1_1 l2_0 l2_1 t306 t309 t328 t331) else ((laws_eqArray.f kj25 t328 t331 t306 t309).bind fun t357 => (if t357 = true then (laws_FnExactEachTwo.j1 kj25 a0 t312 (t334 != t312) l1_0 l1_1 l2_0 l2_1 t306 t309 t328 t331) else (laws_FnExactEachTwo.j1 kj25 a0 t312 true l1_0 l1_1 l2_0 l2_1 t306 t309 t328 t331)))))) = some r := by rw [if_pos rfl] at H; exact H
        clear H
        have H := H1
        clear H1
        replace H := Option.bind_eq_some_iff.mp H
        obtain ⟨⟨t351, t352, t353⟩, A1010, H⟩ := H
        replace H : ((laws_markArray.f kj25 t321 t324 t351).bind fun bt354 => (if bt354.1 < 0 then (laws_FnExactEachTwo.j1 kj25 a0 t312 true l1_0 l1_1 l2_0 l2_1 t306 t309 t328 t331) else ((laws_eqArray.f kj25 t328 t331 t306 t309).bind fun t357 => (if t357 = true then (laws_FnExactEachTwo.j1 kj25 a0 t312 (t334 != t312) l1_0 l1_1 l2_0 l2_1 t306 t309 t328 t331) else (laws_FnExactEachTwo.j1 kj25 a0 t312 true l1_0 l1_1 l2_0 l2_1 t306 t309 t328 t331))))) = some r := H
        have A101 := Aside0.mk A1010
        clear A1010
        replace H := Option.bind_eq_some_iff.mp H
        obtain ⟨⟨t354, t355, t356⟩, A1020, H⟩ := H
        replace H : (if t354 < 0 then (laws_FnExactEachTwo.j1 kj25 a0 t312 true l1_0 l1_1 l2_0 l2_1 t306 t309 t328 t331) else ((laws_eqArray.f kj25 t328 t331 t306 t309).bind fun t357 => (if t357 = true then (laws_FnExactEachTwo.j1 kj25 a0 t312 (t334 != t312) l1_0 l1_1 l2_0 l2_1 t306 t309 t328 t331) else (laws_FnExactEachTwo.j1 kj25 a0 t312 true l1_0 l1_1 l2_0 l2_1 t306 t309 t328 t331)))) = some r := H
        have A102 := Aside0.mk A1020
        clear A1020
        have HC103 := Aside0.mk H
        clear H
        try go_wp2
        replace HO_314000 := Aside0.mk (Kd.R_drew HO_314000.out)
        replace HO_314001 := Aside0.mk (Kd.R_drew HO_314001.out)
        replace HO_321000 := Aside0.mk (Kd.R_drew HO_321000.out)
        replace HO_321001 := Aside0.mk (Kd.R_drew HO_321001.out)
        replace HO_328000 := Aside0.mk (Kd.R_drew HO_328000.out)
        replace HO_328001 := Aside0.mk (Kd.R_drew HO_328001.out)
        replace HO_336000 := Aside0.mk (Kd.R_drew HO_336000.out)
        replace HO_336001 := Aside0.mk (Kd.R_drew HO_336001.out)
        replace BK290 := Aside0.mk (blk_drew BK290.out)
        replace BK291 := Aside0.mk (blk_drew BK291.out)
        replace BK313 := Aside0.mk (blk_drew BK313.out)
        replace BK320 := Aside0.mk (blk_drew BK320.out)
        replace BK327 := Aside0.mk (blk_drew BK327.out)
        replace BK335 := Aside0.mk (blk_drew BK335.out)
        replace HB := Aside0.mk (below_drew1 HB.out)
        refine start_ (n := 5) (S := fun w' => w'.cell? ⟨gb320, 0, none⟩ = some (.slice Ao52 t314.length co52) ∧ w'.cell? ⟨gb320, 1, none⟩ = some (.slice Ao57 t317.length co57) ∧ w'.cell? ⟨gb290, 0, none⟩ = some (.slice A1_0 l1_0.length c1_0) ∧ w'.cell? ⟨gb290, 1, none⟩ = some (.slice A1_1 l1_1.length c1_1)) (ds := []) #[false, false, false, false, false] (by kernel_rfl) rfl rfl ⟨(blk_cell BK320.out 0).trans rfl, (blk_cell BK320.out 1).trans rfl, (blk_cell BK290.out 0).trans rfl, (blk_cell BK290.out 1).trans rfl⟩ (fun hHeld => ?_)
        generalize wc.drew = w104 at HO_314000 HO_314001 HO_321000 HO_321001 HO_328000 HO_328001 HO_336000 HO_336001 BK290 BK291 BK313 BK320 BK327 BK335 HB hHeld ⊢
        refine take_ (i := 0) (N := some 58) (v := ?_) (a' := ?_) #[true, false, false, false, false] rfl rfl (by kernel_rfl) (fun _ _ _ h => h) (Or.inl ⟨by rfl, ?_⟩) hHeld ?_ ?_
        rotate_left
        ·
         rintro w' ⟨s0, s1, s2, s3⟩
         go_simp
         with_reducible rfl
        rotate_left
        ·
         simp only [Act.put, List.setIfInBounds_toArray, List.set_cons_zero, List.set_cons_succ, i64_w, i32_w]
         rfl
        refine take_ (i := 1) (N := some 59) (v := ?_) (a' := ?_) #[true, true, false, false, false] rfl rfl (by kernel_rfl) (fun _ _ _ h => h) (Or.inl ⟨by rfl, ?_⟩) hHeld ?_ ?_
        rotate_left
        ·
         rintro w' ⟨s0, s1, s2, s3⟩
         go_simp
         with_reducible rfl
        rotate_left
        ·
         simp only [Act.put, List.setIfInBounds_toArray, List.set_cons_zero, List.set_cons_succ, i64_w, i32_w]
         rfl
        refine one_ (i := 2) (N := some 60) #[true, true, true, false, false] rfl rfl (by kernel_rfl) (by decide) (fun K hK => ?_)
        refine goes_ Try.func7 (by kernel_rfl) rfl #[.agg #[.slice A1_0 l1_0.length c1_0, .slice A1_1 l1_1.length c1_1]] (by rfl) rfl rfl (by (try simp only [List.map_toArray, List.map_cons, List.map_nil]); first | done | rfl | (simp only [List.length_drop, List.length_take]; rfl)) ?_
        with_reducible refine (laws_toArray.calls kj25 _ _ l1_0 _ _ l1_1 t337 t340 _ ?side1 ?side2 ?side3 ?side4 A95.out).mono ?_
        (case side1 => exact cU (Kd.C_below HR1_0.out HB.out))
        (case side2 => exact HC1_0.out)
        (case side3 => exact cU (Kd.C_below HR1_1.out HB.out))
        (case side4 => exact HC1_1.out)
        rintro e w105 ⟨v338, v341, rfl, ho0, ho1, hb⟩
        refine ⟨_, rfl, ?_⟩
        have HO339 := Aside0.mk (Kd.R_lower (Kd.R_new' (Kd.R_new' (Kd.R_new' (Kd.R_new' (Kd.R_new' (Kd.R_new' (Kd.R_new' (Kd.R_new' ho0 (Kd.R_lt (RU HO_314000.out))) (Kd.R_lt (RU HO_314001.out))) (Kd.R_lt (RU HO_321000.out))) (Kd.R_lt (RU HO_321001.out))) (Kd.R_lt (RU HO_328000.out))) (Kd.R_lt (RU HO_328001.out))) (Kd.R_lt (RU HO_336000.out))) (Kd.R_lt (RU HO_336001.out))) (below_size (by repeat (first | (with_reducible first | exact HB.out | apply below_alloc | apply pw_below_drewN | apply below_drew1 | refine below_set ?_ GE290.out | refine below_set ?_ GE291.out | refine below_set ?_ GE313.out | refine below_set ?_ GE320.out | refine below_set ?_ GE327.out | refine below_set ?_ GE335.out) | exact HB.out))))
        have HO342 := Aside0.mk (Kd.R_lower (Kd.R_new' (Kd.R_new' (Kd.R_new' (Kd.R_new' (Kd.R_new' (Kd.R_new' (Kd.R_new' (Kd.R_new' ho1 (Kd.R_lt (RU HO_314000.out))) (Kd.R_lt (RU HO_314001.out))) (Kd.R_lt (RU HO_321000.out))) (Kd.R_lt (RU HO_321001.out))) (Kd.R_lt (RU HO_328000.out))) (Kd.R_lt (RU HO_328001.out))) (Kd.R_lt (RU HO_336000.out))) (Kd.R_lt (RU HO_336001.out))) (below_size (by repeat (first | (with_reducible first | exact HB.out | apply below_alloc | apply pw_below_drewN | apply below_drew1 | refine below_set ?_ GE290.out | refine below_set ?_ GE291.out | refine below_set ?_ GE313.out | refine below_set ?_ GE320.out | refine below_set ?_ GE327.out | refine below_set ?_ GE335.out) | exact HB.out))))
        replace HO_314000 := Aside0.mk (Kd.R_mono (Kd.R_told (Kd.R_told (Kd.R_old (RU HO_314000.out) hb) (Kd.R_base ho0)) (Kd.R_base ho1)) (fun _ h_ => h_.1))
        replace HO_314001 := Aside0.mk (Kd.R_mono (Kd.R_told (Kd.R_told (Kd.R_old (RU HO_314001.out) hb) (Kd.R_base ho0)) (Kd.R_base ho1)) (fun _ h_ => h_.1))
        replace HO_321000 := Aside0.mk (Kd.R_mono (Kd.R_told (Kd.R_told (Kd.R_old (RU HO_321000.out) hb) (Kd.R_base ho0)) (Kd.R_base ho1)) (fun _ h_ => h_.1))
        replace HO_321001 := Aside0.mk (Kd.R_mono (Kd.R_told (Kd.R_told (Kd.R_old (RU HO_321001.out) hb) (Kd.R_base ho0)) (Kd.R_base ho1)) (fun _ h_ => h_.1))
        replace HO_328000 := Aside0.mk (Kd.R_mono (Kd.R_told (Kd.R_told (Kd.R_old (RU HO_328000.out) hb) (Kd.R_base ho0)) (Kd.R_base ho1)) (fun _ h_ => h_.1))
        replace HO_328001 := Aside0.mk (Kd.R_mono (Kd.R_told (Kd.R_told (Kd.R_old (RU HO_328001.out) hb) (Kd.R_base ho0)) (Kd.R_base ho1)) (fun _ h_ => h_.1))
        replace HO_336000 := Aside0.mk (Kd.R_mono (Kd.R_told (Kd.R_told (Kd.R_old (RU HO_336000.out) hb) (Kd.R_base ho0)) (Kd.R_base ho1)) (fun _ h_ => h_.1))
        replace HO_336001 := Aside0.mk (Kd.R_mono (Kd.R_told (Kd.R_told (Kd.R_old (RU HO_336001.out) hb) (Kd.R_base ho0)) (Kd.R_base ho1)) (fun _ h_ => h_.1))
        replace BK290 := Aside0.mk (blk_below (g := gb290) (o := .cells #[.slice A1_0 l1_0.length c1_0, .slice A1_1 l1_1.length c1_1] 24 (0, 0)) (kU BK290.out) hb)
        replace BK291 := Aside0.mk (blk_below (g := gb291) (o := .cells #[.slice A2_0 l2_0.length c2_0, .slice A2_1 l2_1.length c2_1] 24 (0, 0)) (kU BK291.out) hb)
        replace BK313 := Aside0.mk (blk_below (g := gb313) (o := .cells #[.slice Ao44 t306.length co44, .slice Ao46 t309.length co46] 26 (0, 0)) (kU BK313.out) hb)
        replace BK320 := Aside0.mk (blk_below (g := gb320) (o := .cells #[.slice Ao52 t314.length co52, .slice Ao57 t317.length co57] 26 (0, 0)) (kU BK320.out) hb)
        replace BK327 := Aside0.mk (blk_below (g := gb327) (o := .cells #[.slice Ao62 t321.length co62, .slice Ao68 t324.length co68] 26 (0, 0)) (kU BK327.out) hb)
        replace BK335 := Aside0.mk (blk_below (g := gb335) (o := .cells #[.slice Ao72 t328.length co72, .slice Ao79 t331.length co79] 26 (0, 0)) (kU BK335.out) hb)
        replace HB := Aside0.mk (below_step (by repeat (first | (with_reducible first | exact HB.out | apply below_alloc | apply pw_below_drewN | apply below_drew1 | refine below_set ?_ GE290.out | refine below_set ?_ GE291.out | refine below_set ?_ GE313.out | refine below_set ?_ GE320.out | refine below_set ?_ GE327.out | refine below_set ?_ GE335.out) | exact HB.out)) hb)
        (try clear hb)
        (try clear hb2)
        (try clear hk)
        (try clear hi)
        (try clear ho0)
        (try clear ho1)
        obtain ⟨Ao106, co106, eo106⟩ := Kd.R_slice HO339.out
        (first | subst eo106 | (injection eo106 with f1_ f2_ f3_; have f4_ := f1_.symm; have f5_ := f3_.symm; clear f1_ f2_ f3_; subst f4_; subst f5_))
        obtain ⟨Ao107, co107, eo107⟩ := Kd.R_slice HO342.out
        (first | subst eo107 | (injection eo107 with f1_ f2_ f3_; have f4_ := f1_.symm; have f5_ := f3_.symm; clear f1_ f2_ f3_; subst f4_; subst f5_))
        refine hK.out _ _ ⟨(blk_cell BK320.out 0).trans rfl, (blk_cell BK320.out 1).trans rfl, (blk_cell BK290.out 0).trans rfl, (blk_cell BK290.out 1).trans rfl⟩ (fun hHeld => ?_)
        clear hK K
        refine norm_ (a' := ?_) ?_ ?_
        rotate_left
        ·
         show Act.put _ (some 60) _ = _
         simp only [Act.put, List.setIfInBounds_toArray, List.set_cons_zero, List.set_cons_succ, i64_w, i32_w]
         rfl
        refine one_ (i := 3) (N := some 61) #[true, true, true, true, false] rfl rfl (by kernel_rfl) (by decide) (fun K hK => ?_)
        refine goes_ Try.func9 (by kernel_rfl) rfl #[.agg #[.slice Ao52 t314.length co52, .slice Ao57 t317.length co57], .agg #[.slice Ao106 t337.length co106, .slice Ao107 t340.length co107]] (by rfl) rfl rfl (by (try simp only [List.map_toArray, List.map_cons, List.map_nil]); first | done | rfl | (simp only [List.length_drop, List.length_take]; rfl)) ?_
        with_reducible refine (laws_eqArray.calls kj25 _ _ t314 _ _ t317 _ _ t337 _ _ t340 true _ ?side1 ?side2 ?side3 ?side4 ?side5 ?side6 ?side7 ?side8 A96.out).mono ?_
        (case side1 => exact cU (Kd.R_reads' HO_321000.out).2.2)
        (case side2 => exact (Kd.R_reads' HO_321000.out).2.1)
        (case side3 => exact cU (Kd.R_reads' HO_321001.out).2.2)
        (case side4 => exact (Kd.R_reads' HO_321001.out).2.1)
        (case side5 => exact cU (Kd.R_reads' HO339.out).2.2)
        (case side6 => exact (Kd.R_reads' HO339.out).2.1)
        (case side7 => exact cU (Kd.R_reads' HO342.out).2.2)
        (case side8 => exact (Kd.R_reads' HO342.out).2.1)
        rintro e w108 ⟨rfl, hb⟩
        refine ⟨_, rfl, ?_⟩
        replace HO_314000 := Aside0.mk (Kd.R_below (RU HO_314000.out) hb)
        replace HO_314001 := Aside0.mk (Kd.R_below (RU HO_314001.out) hb)
        replace HO_321000 := Aside0.mk (Kd.R_below (RU HO_321000.out) hb)
        replace HO_321001 := Aside0.mk (Kd.R_below (RU HO_321001.out) hb)
        replace HO_328000 := Aside0.mk (Kd.R_below (RU HO_328000.out) hb)
        replace HO_328001 := Aside0.mk (Kd.R_below (RU HO_328001.out) hb)
        replace HO_336000 := Aside0.mk (Kd.R_below (RU HO_336000.out) hb)
        replace HO_336001 := Aside0.mk (Kd.R_below (RU HO_336001.out) hb)
        replace HO339 := Aside0.mk (Kd.R_below (RU HO339.out) hb)
        replace HO342 := Aside0.mk (Kd.R_below (RU HO342.out) hb)
        replace BK290 := Aside0.mk (blk_below (g := gb290) (o := .cells #[.slice A1_0 l1_0.length c1_0, .slice A1_1 l1_1.length c1_1] 24 (0, 0)) (kU BK290.out) hb)
        replace BK291 := Aside0.mk (blk_below (g := gb291) (o := .cells #[.slice A2_0 l2_0.length c2_0, .slice A2_1 l2_1.length c2_1] 24 (0, 0)) (kU BK291.out) hb)
        replace BK313 := Aside0.mk (blk_below (g := gb313) (o := .cells #[.slice Ao44 t306.length co44, .slice Ao46 t309.length co46] 26 (0, 0)) (kU BK313.out) hb)
        replace BK320 := Aside0.mk (blk_below (g := gb320) (o := .cells #[.slice Ao52 t314.length co52, .slice Ao57 t317.length co57] 26 (0, 0)) (kU BK320.out) hb)
        replace BK327 := Aside0.mk (blk_below (g := gb327) (o := .cells #[.slice Ao62 t321.length co62, .slice Ao68 t324.length co68] 26 (0, 0)) (kU BK327.out) hb)
        replace BK335 := Aside0.mk (blk_below (g := gb335) (o := .cells #[.slice Ao72 t328.length co72, .slice Ao79 t331.length co79] 26 (0, 0)) (kU BK335.out) hb)
        replace HB := Aside0.mk (below_step (by repeat (first | (with_reducible first | exact HB.out | apply below_alloc | apply pw_below_drewN | apply below_drew1 | refine below_set ?_ GE290.out | refine below_set ?_ GE291.out | refine below_set ?_ GE313.out | refine below_set ?_ GE320.out | refine below_set ?_ GE327.out | refine below_set ?_ GE335.out) | exact HB.out)) hb)
        (try clear hb)
        (try clear hb2)
        (try clear hk)
        (try clear hi)
        refine hK.out _ _ ⟨(blk_cell BK320.out 0).trans rfl, (blk_cell BK320.out 1).trans rfl, (blk_cell BK290.out 0).trans rfl, (blk_cell BK290.out 1).trans rfl⟩ (fun hHeld => ?_)
        clear hK K
        refine norm_ (a' := ?_) ?_ ?_
        rotate_left
        ·
         show Act.put _ (some 61) _ = _
         simp only [Act.put, List.setIfInBounds_toArray, List.set_cons_zero, List.set_cons_succ, i64_w, i32_w]
         rfl
        refine pure_ (i := 4) (N := some 62) (v := ?_) (a' := ?_) #[true, true, true, true, true] rfl rfl (by kernel_rfl) (fun _ _ _ h => h) (Or.inl ⟨by rfl, ?_⟩) ?_ ?_
        rotate_left
        ·
         intro w'
         go_simp
         with_reducible rfl
        rotate_left
        ·
         simp only [Act.put, List.setIfInBounds_toArray, List.set_cons_zero, List.set_cons_succ, i64_w, i32_w]
         rfl
        refine done_ (by kernel_rfl) ?_
        try go_wp2
        replace HO_314000 := Aside0.mk (Kd.R_drew HO_314000.out)
        replace HO_314001 := Aside0.mk (Kd.R_drew HO_314001.out)
        replace HO_321000 := Aside0.mk (Kd.R_drew HO_321000.out)
        replace HO_321001 := Aside0.mk (Kd.R_drew HO_321001.out)
        replace HO_328000 := Aside0.mk (Kd.R_drew HO_328000.out)
        replace HO_328001 := Aside0.mk (Kd.R_drew HO_328001.out)
        replace HO_336000 := Aside0.mk (Kd.R_drew HO_336000.out)
        replace HO_336001 := Aside0.mk (Kd.R_drew HO_336001.out)
        replace HO339 := Aside0.mk (Kd.R_drew HO339.out)
        replace HO342 := Aside0.mk (Kd.R_drew HO342.out)
        replace BK290 := Aside0.mk (blk_drew BK290.out)
        replace BK291 := Aside0.mk (blk_drew BK291.out)
        replace BK313 := Aside0.mk (blk_drew BK313.out)
        replace BK320 := Aside0.mk (blk_drew BK320.out)
        replace BK327 := Aside0.mk (blk_drew BK327.out)
        replace BK335 := Aside0.mk (blk_drew BK335.out)
        replace HB := Aside0.mk (below_drew1 HB.out)
        refine start_ (n := 5) (S := fun w' => w'.cell? ⟨gb327, 0, none⟩ = some (.slice Ao62 t321.length co62) ∧ w'.cell? ⟨gb327, 1, none⟩ = some (.slice Ao68 t324.length co68) ∧ w'.cell? ⟨gb291, 0, none⟩ = some (.slice A2_0 l2_0.length c2_0) ∧ w'.cell? ⟨gb291, 1, none⟩ = some (.slice A2_1 l2_1.length c2_1)) (ds := []) #[false, false, false, false, false] (by kernel_rfl) rfl rfl ⟨(blk_cell BK327.out 0).trans rfl, (blk_cell BK327.out 1).trans rfl, (blk_cell BK291.out 0).trans rfl, (blk_cell BK291.out 1).trans rfl⟩ (fun hHeld => ?_)
        generalize w108.drew = w109 at HO_314000 HO_314001 HO_321000 HO_321001 HO_328000 HO_328001 HO_336000 HO_336001 HO339 HO342 BK290 BK291 BK313 BK320 BK327 BK335 HB hHeld ⊢
        refine take_ (i := 0) (N := some 63) (v := ?_) (a' := ?_) #[true, false, false, false, false] rfl rfl (by kernel_rfl) (fun _ _ _ h => h) (Or.inl ⟨by rfl, ?_⟩) hHeld ?_ ?_
        rotate_left
        ·
         rintro w' ⟨s0, s1, s2, s3⟩
         go_simp
         with_reducible rfl
        rotate_left
        ·
         simp only [Act.put, List.setIfInBounds_toArray, List.set_cons_zero, List.set_cons_succ, i64_w, i32_w]
         rfl
        refine take_ (i := 1) (N := some 64) (v := ?_) (a' := ?_) #[true, true, false, false, false] rfl rfl (by kernel_rfl) (fun _ _ _ h => h) (Or.inl ⟨by rfl, ?_⟩) hHeld ?_ ?_
        rotate_left
        ·
         rintro w' ⟨s0, s1, s2, s3⟩
         go_simp
         with_reducible rfl
        rotate_left
        ·
         simp only [Act.put, List.setIfInBounds_toArray, List.set_cons_zero, List.set_cons_succ, i64_w, i32_w]
         rfl
        refine one_ (i := 2) (N := some 65) #[true, true, true, false, false] rfl rfl (by kernel_rfl) (by decide) (fun K hK => ?_)
        refine goes_ Try.func7 (by kernel_rfl) rfl #[.agg #[.slice A2_0 l2_0.length c2_0, .slice A2_1 l2_1.length c2_1]] (by rfl) rfl rfl (by (try simp only [List.map_toArray, List.map_cons, List.map_nil]); first | done | rfl | (simp only [List.length_drop, List.length_take]; rfl)) ?_
        with_reducible refine (laws_toArray.calls kj25 _ _ l2_0 _ _ l2_1 t344 t347 _ ?side1 ?side2 ?side3 ?side4 A98.out).mono ?_
        (case side1 => exact cU (Kd.C_below HR2_0.out HB.out))
        (case side2 => exact HC2_0.out)
        (case side3 => exact cU (Kd.C_below HR2_1.out HB.out))
        (case side4 => exact HC2_1.out)
        rintro e w110 ⟨v345, v348, rfl, ho0, ho1, hb⟩
        refine ⟨_, rfl, ?_⟩
        have HO346 := Aside0.mk (Kd.R_lower (Kd.R_new' (Kd.R_new' (Kd.R_new' (Kd.R_new' (Kd.R_new' (Kd.R_new' (Kd.R_new' (Kd.R_new' (Kd.R_new' (Kd.R_new' ho0 (Kd.R_lt (RU HO_314000.out))) (Kd.R_lt (RU HO_314001.out))) (Kd.R_lt (RU HO_321000.out))) (Kd.R_lt (RU HO_321001.out))) (Kd.R_lt (RU HO_328000.out))) (Kd.R_lt (RU HO_328001.out))) (Kd.R_lt (RU HO_336000.out))) (Kd.R_lt (RU HO_336001.out))) (Kd.R_lt (RU HO339.out))) (Kd.R_lt (RU HO342.out))) (below_size (by repeat (first | (with_reducible first | exact HB.out | apply below_alloc | apply pw_below_drewN | apply below_drew1 | refine below_set ?_ GE290.out | refine below_set ?_ GE291.out | refine below_set ?_ GE313.out | refine below_set ?_ GE320.out | refine below_set ?_ GE327.out | refine below_set ?_ GE335.out) | exact HB.out))))
        have HO349 := Aside0.mk (Kd.R_lower (Kd.R_new' (Kd.R_new' (Kd.R_new' (Kd.R_new' (Kd.R_new' (Kd.R_new' (Kd.R_new' (Kd.R_new' (Kd.R_new' (Kd.R_new' ho1 (Kd.R_lt (RU HO_314000.out))) (Kd.R_lt (RU HO_314001.out))) (Kd.R_lt (RU HO_321000.out))) (Kd.R_lt (RU HO_321001.out))) (Kd.R_lt (RU HO_328000.out))) (Kd.R_lt (RU HO_328001.out))) (Kd.R_lt (RU HO_336000.out))) (Kd.R_lt (RU HO_336001.out))) (Kd.R_lt (RU HO339.out))) (Kd.R_lt (RU HO342.out))) (below_size (by repeat (first | (with_reducible first | exact HB.out | apply below_alloc | apply pw_below_drewN | apply below_drew1 | refine below_set ?_ GE290.out | refine below_set ?_ GE291.out | refine below_set ?_ GE313.out | refine below_set ?_ GE320.out | refine below_set ?_ GE327.out | refine below_set ?_ GE335.out) | exact HB.out))))
        replace HO_314000 := Aside0.mk (Kd.R_mono (Kd.R_told (Kd.R_told (Kd.R_old (RU HO_314000.out) hb) (Kd.R_base ho0)) (Kd.R_base ho1)) (fun _ h_ => h_.1))
        replace HO_314001 := Aside0.mk (Kd.R_mono (Kd.R_told (Kd.R_told (Kd.R_old (RU HO_314001.out) hb) (Kd.R_base ho0)) (Kd.R_base ho1)) (fun _ h_ => h_.1))
        replace HO_321000 := Aside0.mk (Kd.R_mono (Kd.R_told (Kd.R_told (Kd.R_old (RU HO_321000.out) hb) (Kd.R_base ho0)) (Kd.R_base ho1)) (fun _ h_ => h_.1))
        replace HO_321001 := Aside0.mk (Kd.R_mono (Kd.R_told (Kd.R_told (Kd.R_old (RU HO_321001.out) hb) (Kd.R_base ho0)) (Kd.R_base ho1)) (fun _ h_ => h_.1))
        replace HO_328000 := Aside0.mk (Kd.R_mono (Kd.R_told (Kd.R_told (Kd.R_old (RU HO_328000.out) hb) (Kd.R_base ho0)) (Kd.R_base ho1)) (fun _ h_ => h_.1))
        replace HO_328001 := Aside0.mk (Kd.R_mono (Kd.R_told (Kd.R_told (Kd.R_old (RU HO_328001.out) hb) (Kd.R_base ho0)) (Kd.R_base ho1)) (fun _ h_ => h_.1))
        replace HO_336000 := Aside0.mk (Kd.R_mono (Kd.R_told (Kd.R_told (Kd.R_old (RU HO_336000.out) hb) (Kd.R_base ho0)) (Kd.R_base ho1)) (fun _ h_ => h_.1))
        replace HO_336001 := Aside0.mk (Kd.R_mono (Kd.R_told (Kd.R_told (Kd.R_old (RU HO_336001.out) hb) (Kd.R_base ho0)) (Kd.R_base ho1)) (fun _ h_ => h_.1))
        replace HO339 := Aside0.mk (Kd.R_mono (Kd.R_told (Kd.R_told (Kd.R_old (RU HO339.out) hb) (Kd.R_base ho0)) (Kd.R_base ho1)) (fun _ h_ => h_.1))
        replace HO342 := Aside0.mk (Kd.R_mono (Kd.R_told (Kd.R_told (Kd.R_old (RU HO342.out) hb) (Kd.R_base ho0)) (Kd.R_base ho1)) (fun _ h_ => h_.1))
        replace BK290 := Aside0.mk (blk_below (g := gb290) (o := .cells #[.slice A1_0 l1_0.length c1_0, .slice A1_1 l1_1.length c1_1] 24 (0, 0)) (kU BK290.out) hb)
        replace BK291 := Aside0.mk (blk_below (g := gb291) (o := .cells #[.slice A2_0 l2_0.length c2_0, .slice A2_1 l2_1.length c2_1] 24 (0, 0)) (kU BK291.out) hb)
        replace BK313 := Aside0.mk (blk_below (g := gb313) (o := .cells #[.slice Ao44 t306.length co44, .slice Ao46 t309.length co46] 26 (0, 0)) (kU BK313.out) hb)
        replace BK320 := Aside0.mk (blk_below (g := gb320) (o := .cells #[.slice Ao52 t314.length co52, .slice Ao57 t317.length co57] 26 (0, 0)) (kU BK320.out) hb)
        replace BK327 := Aside0.mk (blk_below (g := gb327) (o := .cells #[.slice Ao62 t321.length co62, .slice Ao68 t324.length co68] 26 (0, 0)) (kU BK327.out) hb)
        replace BK335 := Aside0.mk (blk_below (g := gb335) (o := .cells #[.slice Ao72 t328.length co72, .slice Ao79 t331.length co79] 26 (0, 0)) (kU BK335.out) hb)
        replace HB := Aside0.mk (below_step (by repeat (first | (with_reducible first | exact HB.out | apply below_alloc | apply pw_below_drewN | apply below_drew1 | refine below_set ?_ GE290.out | refine below_set ?_ GE291.out | refine below_set ?_ GE313.out | refine below_set ?_ GE320.out | refine below_set ?_ GE327.out | refine below_set ?_ GE335.out) | exact HB.out)) hb)
        (try clear hb)
        (try clear hb2)
        (try clear hk)
        (try clear hi)
        (try clear ho0)
        (try clear ho1)
        obtain ⟨Ao111, co111, eo111⟩ := Kd.R_slice HO346.out
        (first | subst eo111 | (injection eo111 with f1_ f2_ f3_; have f4_ := f1_.symm; have f5_ := f3_.symm; clear f1_ f2_ f3_; subst f4_; subst f5_))
        obtain ⟨Ao112, co112, eo112⟩ := Kd.R_slice HO349.out
        (first | subst eo112 | (injection eo112 with f1_ f2_ f3_; have f4_ := f1_.symm; have f5_ := f3_.symm; clear f1_ f2_ f3_; subst f4_; subst f5_))
        refine hK.out _ _ ⟨(blk_cell BK327.out 0).trans rfl, (blk_cell BK327.out 1).trans rfl, (blk_cell BK291.out 0).trans rfl, (blk_cell BK291.out 1).trans rfl⟩ (fun hHeld => ?_)
        clear hK K
        refine norm_ (a' := ?_) ?_ ?_
        rotate_left
        ·
         show Act.put _ (some 65) _ = _
         simp only [Act.put, List.setIfInBounds_toArray, List.set_cons_zero, List.set_cons_succ, i64_w, i32_w]
         rfl
        refine one_ (i := 3) (N := some 66) #[true, true, true, true, false] rfl rfl (by kernel_rfl) (by decide) (fun K hK => ?_)
        refine goes_ Try.func9 (by kernel_rfl) rfl #[.agg #[.slice Ao62 t321.length co62, .slice Ao68 t324.length co68], .agg #[.slice Ao111 t344.length co111, .slice Ao112 t347.length co112]] (by rfl) rfl rfl (by (try simp only [List.map_toArray, List.map_cons, List.map_nil]); first | done | rfl | (simp only [List.length_drop, List.length_take]; rfl)) ?_
        with_reducible refine (laws_eqArray.calls kj25 _ _ t321 _ _ t324 _ _ t344 _ _ t347 true _ ?side1 ?side2 ?side3 ?side4 ?side5 ?side6 ?side7 ?side8 A99.out).mono ?_
        (case side1 => exact cU (Kd.R_reads' HO_328000.out).2.2)
        (case side2 => exact (Kd.R_reads' HO_328000.out).2.1)
        (case side3 => exact cU (Kd.R_reads' HO_328001.out).2.2)
        (case side4 => exact (Kd.R_reads' HO_328001.out).2.1)
        (case side5 => exact cU (Kd.R_reads' HO346.out).2.2)
        (case side6 => exact (Kd.R_reads' HO346.out).2.1)
        (case side7 => exact cU (Kd.R_reads' HO349.out).2.2)
        (case side8 => exact (Kd.R_reads' HO349.out).2.1)
        rintro e w113 ⟨rfl, hb⟩
        refine ⟨_, rfl, ?_⟩
        replace HO_314000 := Aside0.mk (Kd.R_below (RU HO_314000.out) hb)
        replace HO_314001 := Aside0.mk (Kd.R_below (RU HO_314001.out) hb)
        replace HO_321000 := Aside0.mk (Kd.R_below (RU HO_321000.out) hb)
        replace HO_321001 := Aside0.mk (Kd.R_below (RU HO_321001.out) hb)
        replace HO_328000 := Aside0.mk (Kd.R_below (RU HO_328000.out) hb)
        replace HO_328001 := Aside0.mk (Kd.R_below (RU HO_328001.out) hb)
        replace HO_336000 := Aside0.mk (Kd.R_below (RU HO_336000.out) hb)
        replace HO_336001 := Aside0.mk (Kd.R_below (RU HO_336001.out) hb)
        replace HO339 := Aside0.mk (Kd.R_below (RU HO339.out) hb)
        replace HO342 := Aside0.mk (Kd.R_below (RU HO342.out) hb)
        replace HO346 := Aside0.mk (Kd.R_below (RU HO346.out) hb)
        replace HO349 := Aside0.mk (Kd.R_below (RU HO349.out) hb)
        replace BK290 := Aside0.mk (blk_below (g := gb290) (o := .cells #[.slice A1_0 l1_0.length c1_0, .slice A1_1 l1_1.length c1_1] 24 (0, 0)) (kU BK290.out) hb)
        replace BK291 := Aside0.mk (blk_below (g := gb291) (o := .cells #[.slice A2_0 l2_0.length c2_0, .slice A2_1 l2_1.length c2_1] 24 (0, 0)) (kU BK291.out) hb)
        replace BK313 := Aside0.mk (blk_below (g := gb313) (o := .cells #[.slice Ao44 t306.length co44, .slice Ao46 t309.length co46] 26 (0, 0)) (kU BK313.out) hb)
        replace BK320 := Aside0.mk (blk_below (g := gb320) (o := .cells #[.slice Ao52 t314.length co52, .slice Ao57 t317.length co57] 26 (0, 0)) (kU BK320.out) hb)
        replace BK327 := Aside0.mk (blk_below (g := gb327) (o := .cells #[.slice Ao62 t321.length co62, .slice Ao68 t324.length co68] 26 (0, 0)) (kU BK327.out) hb)
        replace BK335 := Aside0.mk (blk_below (g := gb335) (o := .cells #[.slice Ao72 t328.length co72, .slice Ao79 t331.length co79] 26 (0, 0)) (kU BK335.out) hb)
        replace HB := Aside0.mk (below_step (by repeat (first | (with_reducible first | exact HB.out | apply below_alloc | apply pw_below_drewN | apply below_drew1 | refine below_set ?_ GE290.out | refine below_set ?_ GE291.out | refine below_set ?_ GE313.out | refine below_set ?_ GE320.out | refine below_set ?_ GE327.out | refine below_set ?_ GE335.out) | exact HB.out)) hb)
        (try clear hb)
        (try clear hb2)
        (try clear hk)
        (try clear hi)
        refine hK.out _ _ ⟨(blk_cell BK327.out 0).trans rfl, (blk_cell BK327.out 1).trans rfl, (blk_cell BK291.out 0).trans rfl, (blk_cell BK291.out 1).trans rfl⟩ (fun hHeld => ?_)
        clear hK K
        refine norm_ (a' := ?_) ?_ ?_
        rotate_left
        ·
         show Act.put _ (some 66) _ = _
         simp only [Act.put, List.setIfInBounds_toArray, List.set_cons_zero, List.set_cons_succ, i64_w, i32_w]
         rfl
        refine pure_ (i := 4) (N := some 67) (v := ?_) (a' := ?_) #[true, true, true, true, true] rfl rfl (by kernel_rfl) (fun _ _ _ h => h) (Or.inl ⟨by rfl, ?_⟩) ?_ ?_
        rotate_left
        ·
         intro w'
         go_simp
         with_reducible rfl
        rotate_left
        ·
         simp only [Act.put, List.setIfInBounds_toArray, List.set_cons_zero, List.set_cons_succ, i64_w, i32_w]
         rfl
        refine done_ (by kernel_rfl) ?_
        have hnb114 := NB320_290.out
        have hnc114 := NB290_320.out
        have hnb115 := NB320_291.out
        have hnc115 := NB291_320.out
        have hnb116 := NB320_313.out
        have hnc116 := NB313_320.out
        have hnb117 := NB320_327.out
        have hnc117 := NB327_320.out
        have hnb118 := NB320_335.out
        have hnc118 := NB335_320.out
        have hcz119_0 : w113.cell? ⟨gb320, 0, none⟩ = some (.slice Ao52 t314.length co52) := (blk_cell BK320.out 0).trans rfl
        have hcz119_1 : w113.cell? ⟨gb320, 1, none⟩ = some (.slice Ao57 t317.length co57) := (blk_cell BK320.out 1).trans rfl
        have hfz119_0 := blk_frozen BK320.out 0
        have hfz119_1 := blk_frozen BK320.out 1
        go_upto_region 21 with (first | ((with_reducible refine gate_callee (f := 10) rfl ?_); refine goesL_ (some 70) rfl rfl Try.func10 (by kernel_rfl) rfl #[.agg #[.slice Ao52 t314.length co52, .slice Ao57 t317.length co57], .int .i64 1] rfl (by (try simp only [List.map_toArray, List.map_cons, List.map_nil]); first | done | rfl | (simp only [List.length_drop, List.length_take]; rfl)) ?_; (with_reducible refine (laws_markArray.calls kj25 (fun k_ => some k_ = (.slice Ao52 t314.length co52 : Value).ownBlock) (.slice Ao52 t314.length co52) t314 (fun k_ => some k_ = (.slice Ao57 t317.length co57 : Value).ownBlock) (.slice Ao57 t317.length co57) t317 1 t351 t352 t353 w _ ?side1 ?side2 ?side3 ?side4 ?side5 A101.out).mono ?_); (case side1 => repeat (first | (with_reducible first | exact HB.out | apply below_alloc | apply pw_below_drewN | apply below_drew1 | refine below_set ?_ GE290.out | refine below_set ?_ GE291.out | refine below_set ?_ GE313.out | refine below_set ?_ GE320.out | refine below_set ?_ GE327.out | refine below_set ?_ GE335.out) | exact HB.out)); (case side2 => exact Kd.R_tight rfl HO_321000.out); (case side3 => exact fun k_ e_ => (HO_321000.out.1 k_ e_.symm).1.1.1.1.2.2.1); (case side4 => exact Kd.R_tight rfl HO_321001.out); (case side5 => exact fun k_ e_ => (HO_321001.out.1 k_ e_.symm).1.1.1.1.2.2.1); rintro e w120 ⟨rfl, hy0, hy1, hb, hkp⟩; refine ⟨_, rfl, ?_⟩; replace HO_314000 := Aside0.mk (Kd.R_mono (ok' := fun k_ => some k_ ≠ (.slice Ao46 t309.length co46 : Value).ownBlock ∧ some k_ ≠ (.slice Ao52 t314.length co52 : Value).ownBlock ∧ some k_ ≠ (.slice Ao57 t317.length co57 : Value).ownBlock ∧ some k_ ≠ (.slice Ao62 t321.length co62 : Value).ownBlock ∧ some k_ ≠ (.slice Ao68 t324.length co68 : Value).ownBlock ∧ some k_ ≠ (.slice Ao72 t328.length co72 : Value).ownBlock ∧ some k_ ≠ (.slice Ao79 t331.length co79 : Value).ownBlock ∧ some k_ ≠ (.slice Ao106 t337.length co106 : Value).ownBlock ∧ some k_ ≠ (.slice Ao107 t340.length co107 : Value).ownBlock ∧ some k_ ≠ (.slice Ao111 t344.length co111 : Value).ownBlock ∧ some k_ ≠ (.slice Ao112 t347.length co112 : Value).ownBlock) (Kd.R_keptB (HO_314000.out) hkp (fun k_ hk_ hs_ => Or.elim hs_ (fun e_ => (hk_.1.1.1.1.2.1) e_) (fun e_ => (hk_.1.1.1.1.2.2.1) e_))) (fun k_ hk_ => ⟨hk_.1.1.1.1.1.1, hk_.1.1.1.1.1.2.1, hk_.1.1.1.1.1.2.2.1, hk_.1.1.1.1.1.2.2.2.1, hk_.1.1.1.1.1.2.2.2.2.1, hk_.1.1.1.1.1.2.2.2.2.2.1, hk_.1.1.1.1.1.2.2.2.2.2.2, hk_.1.1.1.1.2, hk_.1.1.1.2, hk_.1.1.2, hk_.1.2⟩)); replace HO_314001 := Aside0.mk (Kd.R_mono (ok' := fun k_ => some k_ ≠ (.slice Ao44 t306.length co44 : Value).ownBlock ∧ some k_ ≠ (.slice Ao52 t314.length co52 : Value).ownBlock ∧ some k_ ≠ (.slice Ao57 t317.length co57 : Value).ownBlock ∧ some k_ ≠ (.slice Ao62 t321.length co62 : Value).ownBlock ∧ some k_ ≠ (.slice Ao68 t324.length co68 : Value).ownBlock ∧ some k_ ≠ (.slice Ao72 t328.length co72 : Value).ownBlock ∧ some k_ ≠ (.slice Ao79 t331.length co79 : Value).ownBlock ∧ some k_ ≠ (.slice Ao106 t337.length co106 : Value).ownBlock ∧ some k_ ≠ (.slice Ao107 t340.length co107 : Value).ownBlock ∧ some k_ ≠ (.slice Ao111 t344.length co111 : Value).ownBlock ∧ some k_ ≠ (.slice Ao112 t347.length co112 : Value).ownBlock) (Kd.R_keptB (HO_314001.out) hkp (fun k_ hk_ hs_ => Or.elim hs_ (fun e_ => (hk_.1.1.1.1.2.1) e_) (fun e_ => (hk_.1.1.1.1.2.2.1) e_))) (fun k_ hk_ => ⟨hk_.1.1.1.1.1.1, hk_.1.1.1.1.1.2.1, hk_.1.1.1.1.1.2.2.1, hk_.1.1.1.1.1.2.2.2.1, hk_.1.1.1.1.1.2.2.2.2.1, hk_.1.1.1.1.1.2.2.2.2.2.1, hk_.1.1.1.1.1.2.2.2.2.2.2, hk_.1.1.1.1.2, hk_.1.1.1.2, hk_.1.1.2, hk_.1.2⟩)); replace HO_328000 := Aside0.mk (Kd.R_mono (ok' := fun k_ => some k_ ≠ (.slice Ao44 t306.length co44 : Value).ownBlock ∧ some k_ ≠ (.slice Ao46 t309.length co46 : Value).ownBlock ∧ some k_ ≠ (.slice Ao52 t314.length co52 : Value).ownBlock ∧ some k_ ≠ (.slice Ao57 t317.length co57 : Value).ownBlock ∧ some k_ ≠ (.slice Ao68 t324.length co68 : Value).ownBlock ∧ some k_ ≠ (.slice Ao72 t328.length co72 : Value).ownBlock ∧ some k_ ≠ (.slice Ao79 t331.length co79 : Value).ownBlock ∧ some k_ ≠ (.slice Ao106 t337.length co106 : Value).ownBlock ∧ some k_ ≠ (.slice Ao107 t340.length co107 : Value).ownBlock ∧ some k_ ≠ (.slice Ao111 t344.length co111 : Value).ownBlock ∧ some k_ ≠ (.slice Ao112 t347.length co112 : Value).ownBlock) (Kd.R_keptB (HO_328000.out) hkp (fun k_ hk_ hs_ => Or.elim hs_ (fun e_ => (hk_.1.1.1.1.2.2.1) e_) (fun e_ => (hk_.1.1.1.1.2.2.2.1) e_))) (fun k_ hk_ => ⟨hk_.1.1.1.1.1.1, hk_.1.1.1.1.1.2.1, hk_.1.1.1.1.1.2.2.1, hk_.1.1.1.1.1.2.2.2.1, hk_.1.1.1.1.1.2.2.2.2.1, hk_.1.1.1.1.1.2.2.2.2.2.1, hk_.1.1.1.1.1.2.2.2.2.2.2, hk_.1.1.1.1.2, hk_.1.1.1.2, hk_.1.1.2, hk_.1.2⟩)); replace HO_328001 := Aside0.mk (Kd.R_mono (ok' := fun k_ => some k_ ≠ (.slice Ao44 t306.length co44 : Value).ownBlock ∧ some k_ ≠ (.slice Ao46 t309.length co46 : Value).ownBlock ∧ some k_ ≠ (.slice Ao52 t314.length co52 : Value).ownBlock ∧ some k_ ≠ (.slice Ao57 t317.length co57 : Value).ownBlock ∧ some k_ ≠ (.slice Ao62 t321.length co62 : Value).ownBlock ∧ some k_ ≠ (.slice Ao72 t328.length co72 : Value).ownBlock ∧ some k_ ≠ (.slice Ao79 t331.length co79 : Value).ownBlock ∧ some k_ ≠ (.slice Ao106 t337.length co106 : Value).ownBlock ∧ some k_ ≠ (.slice Ao107 t340.length co107 : Value).ownBlock ∧ some k_ ≠ (.slice Ao111 t344.length co111 : Value).ownBlock ∧ some k_ ≠ (.slice Ao112 t347.length co112 : Value).ownBlock) (Kd.R_keptB (HO_328001.out) hkp (fun k_ hk_ hs_ => Or.elim hs_ (fun e_ => (hk_.1.1.1.1.2.2.1) e_) (fun e_ => (hk_.1.1.1.1.2.2.2.1) e_))) (fun k_ hk_ => ⟨hk_.1.1.1.1.1.1, hk_.1.1.1.1.1.2.1, hk_.1.1.1.1.1.2.2.1, hk_.1.1.1.1.1.2.2.2.1, hk_.1.1.1.1.1.2.2.2.2.1, hk_.1.1.1.1.1.2.2.2.2.2.1, hk_.1.1.1.1.1.2.2.2.2.2.2, hk_.1.1.1.1.2, hk_.1.1.1.2, hk_.1.1.2, hk_.1.2⟩)); replace HO_336000 := Aside0.mk (Kd.R_mono (ok' := fun k_ => some k_ ≠ (.slice Ao44 t306.length co44 : Value).ownBlock ∧ some k_ ≠ (.slice Ao46 t309.length co46 : Value).ownBlock ∧ some k_ ≠ (.slice Ao52 t314.length co52 : Value).ownBlock ∧ some k_ ≠ (.slice Ao57 t317.length co57 : Value).ownBlock ∧ some k_ ≠ (.slice Ao62 t321.length co62 : Value).ownBlock ∧ some k_ ≠ (.slice Ao68 t324.length co68 : Value).ownBlock ∧ some k_ ≠ (.slice Ao79 t331.length co79 : Value).ownBlock ∧ some k_ ≠ (.slice Ao106 t337.length co106 : Value).ownBlock ∧ some k_ ≠ (.slice Ao107 t340.length co107 : Value).ownBlock ∧ some k_ ≠ (.slice Ao111 t344.length co111 : Value).ownBlock ∧ some k_ ≠ (.slice Ao112 t347.length co112 : Value).ownBlock) (Kd.R_keptB (HO_336000.out) hkp (fun k_ hk_ hs_ => Or.elim hs_ (fun e_ => (hk_.1.1.1.1.2.2.1) e_) (fun e_ => (hk_.1.1.1.1.2.2.2.1) e_))) (fun k_ hk_ => ⟨hk_.1.1.1.1.1.1, hk_.1.1.1.1.1.2.1, hk_.1.1.1.1.1.2.2.1, hk_.1.1.1.1.1.2.2.2.1, hk_.1.1.1.1.1.2.2.2.2.1, hk_.1.1.1.1.1.2.2.2.2.2.1, hk_.1.1.1.1.1.2.2.2.2.2.2, hk_.1.1.1.1.2, hk_.1.1.1.2, hk_.1.1.2, hk_.1.2⟩)); replace HO_336001 := Aside0.mk (Kd.R_mono (ok' := fun k_ => some k_ ≠ (.slice Ao44 t306.length co44 : Value).ownBlock ∧ some k_ ≠ (.slice Ao46 t309.length co46 : Value).ownBlock ∧ some k_ ≠ (.slice Ao52 t314.length co52 : Value).ownBlock ∧ some k_ ≠ (.slice Ao57 t317.length co57 : Value).ownBlock ∧ some k_ ≠ (.slice Ao62 t321.length co62 : Value).ownBlock ∧ some k_ ≠ (.slice Ao68 t324.length co68 : Value).ownBlock ∧ some k_ ≠ (.slice Ao72 t328.length co72 : Value).ownBlock ∧ some k_ ≠ (.slice Ao106 t337.length co106 : Value).ownBlock ∧ some k_ ≠ (.slice Ao107 t340.length co107 : Value).ownBlock ∧ some k_ ≠ (.slice Ao111 t344.length co111 : Value).ownBlock ∧ some k_ ≠ (.slice Ao112 t347.length co112 : Value).ownBlock) (Kd.R_keptB (HO_336001.out) hkp (fun k_ hk_ hs_ => Or.elim hs_ (fun e_ => (hk_.1.1.1.1.2.2.1) e_) (fun e_ => (hk_.1.1.1.1.2.2.2.1) e_))) (fun k_ hk_ => ⟨hk_.1.1.1.1.1.1, hk_.1.1.1.1.1.2.1, hk_.1.1.1.1.1.2.2.1, hk_.1.1.1.1.1.2.2.2.1, hk_.1.1.1.1.1.2.2.2.2.1, hk_.1.1.1.1.1.2.2.2.2.2.1, hk_.1.1.1.1.1.2.2.2.2.2.2, hk_.1.1.1.1.2, hk_.1.1.1.2, hk_.1.1.2, hk_.1.2⟩)); replace BK290 := Aside0.mk (blk_kept (kU BK290.out) hkp (fun hs_ => Or.elim hs_ (fun e_ => (fun e_ => (Kd.R_ne HO_321000.out BK290.out (by decide)) e_) e_) (fun e_ => (fun e_ => (Kd.R_ne HO_321001.out BK290.out (by decide)) e_) e_))); replace BK291 := Aside0.mk (blk_kept (kU BK291.out) hkp (fun hs_ => Or.elim hs_ (fun e_ => (fun e_ => (Kd.R_ne HO_321000.out BK291.out (by decide)) e_) e_) (fun e_ => (fun e_ => (Kd.R_ne HO_321001.out BK291.out (by decide)) e_) e_))); replace BK313 := Aside0.mk (blk_kept (kU BK313.out) hkp (fun hs_ => Or.elim hs_ (fun e_ => (fun e_ => (Kd.R_ne HO_321000.out BK313.out (by decide)) e_) e_) (fun e_ => (fun e_ => (Kd.R_ne HO_321001.out BK313.out (by decide)) e_) e_))); replace BK320 := Aside0.mk (blk_kept (kU BK320.out) hkp (fun hs_ => Or.elim hs_ (fun e_ => (fun e_ => (Kd.R_ne HO_321000.out BK320.out (by decide)) e_) e_) (fun e_ => (fun e_ => (Kd.R_ne HO_321001.out BK320.out (by decide)) e_) e_))); replace BK327 := Aside0.mk (blk_kept (kU BK327.out) hkp (fun hs_ => Or.elim hs_ (fun e_ => (fun e_ => (Kd.R_ne HO_321000.out BK327.out (by decide)) e_) e_) (fun e_ => (fun e_ => (Kd.R_ne HO_321001.out BK327.out (by decide)) e_) e_))); replace BK335 := Aside0.mk (blk_kept (kU BK335.out) hkp (fun hs_ => Or.elim hs_ (fun e_ => (fun e_ => (Kd.R_ne HO_321000.out BK335.out (by decide)) e_) e_) (fun e_ => (fun e_ => (Kd.R_ne HO_321001.out BK335.out (by decide)) e_) e_))); replace HO_321000 := Aside0.mk (Kd.R_reok rfl hy0 (fun k_ e_ => HO_321000.out.1 k_ e_)); replace HO_321001 := Aside0.mk (Kd.R_reok rfl hy1 (fun k_ e_ => HO_321001.out.1 k_ e_)); replace HO339 := Aside0.mk (Kd.R_mono (ok' := fun k_ => some k_ ≠ (.slice Ao44 t306.length co44 : Value).ownBlock ∧ some k_ ≠ (.slice Ao46 t309.length co46 : Value).ownBlock ∧ some k_ ≠ (.slice Ao52 t314.length co52 : Value).ownBlock ∧ some k_ ≠ (.slice Ao57 t317.length co57 : Value).ownBlock ∧ some k_ ≠ (.slice Ao62 t321.length co62 : Value).ownBlock ∧ some k_ ≠ (.slice Ao68 t324.length co68 : Value).ownBlock ∧ some k_ ≠ (.slice Ao72 t328.length co72 : Value).ownBlock ∧ some k_ ≠ (.slice Ao79 t331.length co79 : Value).ownBlock ∧ some k_ ≠ (.slice Ao107 t340.length co107 : Value).ownBlock ∧ some k_ ≠ (.slice Ao111 t344.length co111 : Value).ownBlock ∧ some k_ ≠ (.slice Ao112 t347.length co112 : Value).ownBlock) (Kd.R_keptB (HO339.out) hkp (fun k_ hk_ hs_ => Or.elim hs_ (fun e_ => (hk_.1.1.1.1.1.1.1.2) e_) (fun e_ => (hk_.1.1.1.1.1.1.2) e_))) (fun k_ hk_ => ⟨hk_.1.1.1.1.1.1.1.1.1.1.2, hk_.1.1.1.1.1.1.1.1.1.2, hk_.1.1.1.1.1.1.1.1.2, hk_.1.1.1.1.1.1.1.2, hk_.1.1.1.1.1.1.2, hk_.1.1.1.1.1.2, hk_.1.1.1.1.2, hk_.1.1.1.2, hk_.1.1.1.1.1.1.1.1.1.1.1, hk_.1.1.2, hk_.1.2⟩)); replace HO342 := Aside0.mk (Kd.R_mono (ok' := fun k_ => some k_ ≠ (.slice Ao44 t306.length co44 : Value).ownBlock ∧ some k_ ≠ (.slice Ao46 t309.length co46 : Value).ownBlock ∧ some k_ ≠ (.slice Ao52 t314.length co52 : Value).ownBlock ∧ some k_ ≠ (.slice Ao57 t317.length co57 : Value).ownBlock ∧ some k_ ≠ (.slice Ao62 t321.length co62 : Value).ownBlock ∧ some k_ ≠ (.slice Ao68 t324.length co68 : Value).ownBlock ∧ some k_ ≠ (.slice Ao72 t328.length co72 : Value).ownBlock ∧ some k_ ≠ (.slice Ao79 t331.length co79 : Value).ownBlock ∧ some k_ ≠ (.slice Ao106 t337.length co106 : Value).ownBlock ∧ some k_ ≠ (.slice Ao111 t344.length co111 : Value).ownBlock ∧ some k_ ≠ (.slice Ao112 t347.length co112 : Value).ownBlock) (Kd.R_keptB (HO342.out) hkp (fun k_ hk_ hs_ => Or.elim hs_ (fun e_ => (hk_.1.1.1.1.1.1.1.2) e_) (fun e_ => (hk_.1.1.1.1.1.1.2) e_))) (fun k_ hk_ => ⟨hk_.1.1.1.1.1.1.1.1.1.1.2, hk_.1.1.1.1.1.1.1.1.1.2, hk_.1.1.1.1.1.1.1.1.2, hk_.1.1.1.1.1.1.1.2, hk_.1.1.1.1.1.1.2, hk_.1.1.1.1.1.2, hk_.1.1.1.1.2, hk_.1.1.1.2, hk_.1.1.1.1.1.1.1.1.1.1.1, hk_.1.1.2, hk_.1.2⟩)); replace HO346 := Aside0.mk (Kd.R_mono (ok' := fun k_ => some k_ ≠ (.slice Ao44 t306.length co44 : Value).ownBlock ∧ some k_ ≠ (.slice Ao46 t309.length co46 : Value).ownBlock ∧ some k_ ≠ (.slice Ao52 t314.length co52 : Value).ownBlock ∧ some k_ ≠ (.slice Ao57 t317.length co57 : Value).ownBlock ∧ some k_ ≠ (.slice Ao62 t321.length co62 : Value).ownBlock ∧ some k_ ≠ (.slice Ao68 t324.length co68 : Value).ownBlock ∧ some k_ ≠ (.slice Ao72 t328.length co72 : Value).ownBlock ∧ some k_ ≠ (.slice Ao79 t331.length co79 : Value).ownBlock ∧ some k_ ≠ (.slice Ao106 t337.length co106 : Value).ownBlock ∧ some k_ ≠ (.slice Ao107 t340.length co107 : Value).ownBlock ∧ some k_ ≠ (.slice Ao112 t347.length co112 : Value).ownBlock) (Kd.R_keptB (HO346.out) hkp (fun k_ hk_ hs_ => Or.elim hs_ (fun e_ => (hk_.1.1.1.1.1.1.1.2) e_) (fun e_ => (hk_.1.1.1.1.1.1.2) e_))) (fun k_ hk_ => ⟨hk_.1.1.1.1.1.1.1.1.1.1.2, hk_.1.1.1.1.1.1.1.1.1.2, hk_.1.1.1.1.1.1.1.1.2, hk_.1.1.1.1.1.1.1.2, hk_.1.1.1.1.1.1.2, hk_.1.1.1.1.1.2, hk_.1.1.1.1.2, hk_.1.1.1.2, hk_.1.1.2, hk_.1.2, hk_.1.1.1.1.1.1.1.1.1.1.1⟩)); replace HO349 := Aside0.mk (Kd.R_mono (ok' := fun k_ => some k_ ≠ (.slice Ao44 t306.length co44 : Value).ownBlock ∧ some k_ ≠ (.slice Ao46 t309.length co46 : Value).ownBlock ∧ some k_ ≠ (.slice Ao52 t314.length co52 : Value).ownBlock ∧ some k_ ≠ (.slice Ao57 t317.length co57 : Value).ownBlock ∧ some k_ ≠ (.slice Ao62 t321.length co62 : Value).ownBlock ∧ some k_ ≠ (.slice Ao68 t324.length co68 : Value).ownBlock ∧ some k_ ≠ (.slice Ao72 t328.length co72 : Value).ownBlock ∧ some k_ ≠ (.slice Ao79 t331.length co79 : Value).ownBlock ∧ some k_ ≠ (.slice Ao106 t337.length co106 : Value).ownBlock ∧ some k_ ≠ (.slice Ao107 t340.length co107 : Value).ownBlock ∧ some k_ ≠ (.slice Ao111 t344.length co111 : Value).ownBlock) (Kd.R_keptB (HO349.out) hkp (fun k_ hk_ hs_ => Or.elim hs_ (fun e_ => (hk_.1.1.1.1.1.1.1.2) e_) (fun e_ => (hk_.1.1.1.1.1.1.2) e_))) (fun k_ hk_ => ⟨hk_.1.1.1.1.1.1.1.1.1.1.2, hk_.1.1.1.1.1.1.1.1.1.2, hk_.1.1.1.1.1.1.1.1.2, hk_.1.1.1.1.1.1.1.2, hk_.1.1.1.1.1.1.2, hk_.1.1.1.1.1.2, hk_.1.1.1.1.2, hk_.1.1.1.2, hk_.1.1.2, hk_.1.2, hk_.1.1.1.1.1.1.1.1.1.1.1⟩)); replace HB := Aside0.mk (hb); (try clear hb); (try clear hkp); (try clear hy0); (try clear hy1); have hnb121 := NB327_290.out; have hnc121 := NB290_327.out; have hnb122 := NB327_291.out; have hnc122 := NB291_327.out; have hnb123 := NB327_313.out; have hnc123 := NB313_327.out; have hnb124 := NB327_335.out; have hnc124 := NB335_327.out; have hcz125_0 : w120.cell? ⟨gb327, 0, none⟩ = some (.slice Ao62 t321.length co62) := (blk_cell BK327.out 0).trans rfl; have hcz125_1 : w120.cell? ⟨gb327, 1, none⟩ = some (.slice Ao68 t324.length co68) := (blk_cell BK327.out 1).trans rfl; have hfz125_0 := blk_frozen BK327.out 0; have hfz125_1 := blk_frozen BK327.out 1) | ((with_reducible refine gate_callee (f := 10) rfl ?_); refine goesL_ (some 73) rfl rfl Try.func10 (by kernel_rfl) rfl #[.agg #[.slice Ao62 t321.length co62, .slice Ao68 t324.length co68], .int .i64 t351] rfl (by (try simp only [List.map_toArray, List.map_cons, List.map_nil]); first | done | rfl | (simp only [List.length_drop, List.length_take]; rfl)) ?_; (with_reducible refine (laws_markArray.calls kj25 (fun k_ => some k_ = (.slice Ao62 t321.length co62 : Value).ownBlock) (.slice Ao62 t321.length co62) t321 (fun k_ => some k_ = (.slice Ao68 t324.length co68 : Value).ownBlock) (.slice Ao68 t324.length co68) t324 t351 t354 t355 t356 w _ ?side1 ?side2 ?side3 ?side4 ?side5 A102.out).mono ?_); (case side1 => repeat (first | (with_reducible first | exact HB.out | apply below_alloc | apply pw_below_drewN | apply below_drew1 | refine below_set ?_ GE290.out | refine below_set ?_ GE291.out | refine below_set ?_ GE313.out | refine below_set ?_ GE320.out | refine below_set ?_ GE327.out | refine below_set ?_ GE335.out) | exact HB.out)); (case side2 => exact Kd.R_tight rfl HO_328000.out); (case side3 => exact fun k_ e_ => (HO_328000.out.1 k_ e_.symm).2.2.2.2.1); (case side4 => exact Kd.R_tight rfl HO_328001.out); (case side5 => exact fun k_ e_ => (HO_328001.out.1 k_ e_.symm).2.2.2.2.1); rintro e w126 ⟨rfl, hy0, hy1, hb, hkp⟩; refine ⟨_, rfl, ?_⟩; replace HO_314000 := Aside0.mk (Kd.R_mono (ok' := fun k_ => some k_ ≠ (.slice Ao46 t309.length co46 : Value).ownBlock ∧ some k_ ≠ (.slice Ao52 t314.length co52 : Value).ownBlock ∧ some k_ ≠ (.slice Ao57 t317.length co57 : Value).ownBlock ∧ some k_ ≠ (.slice Ao62 t321.length co62 : Value).ownBlock ∧ some k_ ≠ (.slice Ao68 t324.length co68 : Value).ownBlock ∧ some k_ ≠ (.slice Ao72 t328.length co72 : Value).ownBlock ∧ some k_ ≠ (.slice Ao79 t331.length co79 : Value).ownBlock ∧ some k_ ≠ (.slice Ao106 t337.length co106 : Value).ownBlock ∧ some k_ ≠ (.slice Ao107 t340.length co107 : Value).ownBlock ∧ some k_ ≠ (.slice Ao111 t344.length co111 : Value).ownBlock ∧ some k_ ≠ (.slice Ao112 t347.length co112 : Value).ownBlock) (Kd.R_keptB (HO_314000.out) hkp (fun k_ hk_ hs_ => Or.elim hs_ (fun e_ => (hk_.2.2.2.1) e_) (fun e_ => (hk_.2.2.2.2.1) e_))) (fun k_ hk_ => ⟨hk_.1.1, hk_.1.2.1, hk_.1.2.2.1, hk_.1.2.2.2.1, hk_.1.2.2.2.2.1, hk_.1.2.2.2.2.2.1, hk_.1.2.2.2.2.2.2.1, hk_.1.2.2.2.2.2.2.2.1, hk_.1.2.2.2.2.2.2.2.2.1, hk_.1.2.2.2.2.2.2.2.2.2.1, hk_.1.2.2.2.2.2.2.2.2.2.2⟩)); replace HO_314001 := Aside0.mk (Kd.R_mono (ok' := fun k_ => some k_ ≠ (.slice Ao44 t306.length co44 : Value).ownBlock ∧ some k_ ≠ (.slice Ao52 t314.length co52 : Value).ownBlock ∧ some k_ ≠ (.slice Ao57 t317.length co57 : Value).ownBlock ∧ some k_ ≠ (.slice Ao62 t321.length co62 : Value).ownBlock ∧ some k_ ≠ (.slice Ao68 t324.length co68 : Value).ownBlock ∧ some k_ ≠ (.slice Ao72 t328.length co72 : Value).ownBlock ∧ some k_ ≠ (.slice Ao79 t331.length co79 : Value).ownBlock ∧ some k_ ≠ (.slice Ao106 t337.length co106 : Value).ownBlock ∧ some k_ ≠ (.slice Ao107 t340.length co107 : Value).ownBlock ∧ some k_ ≠ (.slice Ao111 t344.length co111 : Value).ownBlock ∧ some k_ ≠ (.slice Ao112 t347.length co112 : Value).ownBlock) (Kd.R_keptB (HO_314001.out) hkp (fun k_ hk_ hs_ => Or.elim hs_ (fun e_ => (hk_.2.2.2.1) e_) (fun e_ => (hk_.2.2.2.2.1) e_))) (fun k_ hk_ => ⟨hk_.1.1, hk_.1.2.1, hk_.1.2.2.1, hk_.1.2.2.2.1, hk_.1.2.2.2.2.1, hk_.1.2.2.2.2.2.1, hk_.1.2.2.2.2.2.2.1, hk_.1.2.2.2.2.2.2.2.1, hk_.1.2.2.2.2.2.2.2.2.1, hk_.1.2.2.2.2.2.2.2.2.2.1, hk_.1.2.2.2.2.2.2.2.2.2.2⟩)); replace HO_321000 := Aside0.mk (Kd.R_mono (ok' := fun k_ => some k_ ≠ (.slice Ao44 t306.length co44 : Value).ownBlock ∧ some k_ ≠ (.slice Ao46 t309.length co46 : Value).ownBlock ∧ some k_ ≠ (.slice Ao57 t317.length co57 : Value).ownBlock ∧ some k_ ≠ (.slice Ao62 t321.length co62 : Value).ownBlock ∧ some k_ ≠ (.slice Ao68 t324.length co68 : Value).ownBlock ∧ some k_ ≠ (.slice Ao72 t328.length co72 : Value).ownBlock ∧ some k_ ≠ (.slice Ao79 t331.length co79 : Value).ownBlock ∧ some k_ ≠ (.slice Ao106 t337.length co106 : Value).ownBlock ∧ some k_ ≠ (.slice Ao107 t340.length co107 : Value).ownBlock ∧ some k_ ≠ (.slice Ao111 t344.length co111 : Value).ownBlock ∧ some k_ ≠ (.slice Ao112 t347.length co112 : Value).ownBlock) (Kd.R_keptB (HO_321000.out) hkp (fun k_ hk_ hs_ => Or.elim hs_ (fun e_ => (hk_.1.1.1.1.2.2.2.1) e_) (fun e_ => (hk_.1.1.1.1.2.2.2.2.1) e_))) (fun k_ hk_ => ⟨hk_.1.1.1.1.1.1, hk_.1.1.1.1.1.2.1, hk_.1.1.1.1.1.2.2.1, hk_.1.1.1.1.1.2.2.2.1, hk_.1.1.1.1.1.2.2.2.2.1, hk_.1.1.1.1.1.2.2.2.2.2.1, hk_.1.1.1.1.1.2.2.2.2.2.2, hk_.1.1.1.1.2, hk_.1.1.1.2, hk_.1.1.2, hk_.1.2⟩)); replace HO_321001 := Aside0.mk (Kd.R_mono (ok' := fun k_ => some k_ ≠ (.slice Ao44 t306.length co44 : Value).ownBlock ∧ some k_ ≠ (.slice Ao46 t309.length co46 : Value).ownBlock ∧ some k_ ≠ (.slice Ao52 t314.length co52 : Value).ownBlock ∧ some k_ ≠ (.slice Ao62 t321.length co62 : Value).ownBlock ∧ some k_ ≠ (.slice Ao68 t324.length co68 : Value).ownBlock ∧ some k_ ≠ (.slice Ao72 t328.length co72 : Value).ownBlock ∧ some k_ ≠ (.slice Ao79 t331.length co79 : Value).ownBlock ∧ some k_ ≠ (.slice Ao106 t337.length co106 : Value).ownBlock ∧ some k_ ≠ (.slice Ao107 t340.length co107 : Value).ownBlock ∧ some k_ ≠ (.slice Ao111 t344.length co111 : Value).ownBlock ∧ some k_ ≠ (.slice Ao112 t347.length co112 : Value).ownBlock) (Kd.R_keptB (HO_321001.out) hkp (fun k_ hk_ hs_ => Or.elim hs_ (fun e_ => (hk_.1.1.1.1.2.2.2.1) e_) (fun e_ => (hk_.1.1.1.1.2.2.2.2.1) e_))) (fun k_ hk_ => ⟨hk_.1.1.1.1.1.1, hk_.1.1.1.1.1.2.1, hk_.1.1.1.1.1.2.2.1, hk_.1.1.1.1.1.2.2.2.1, hk_.1.1.1.1.1.2.2.2.2.1, hk_.1.1.1.1.1.2.2.2.2.2.1, hk_.1.1.1.1.1.2.2.2.2.2.2, hk_.1.1.1.1.2, hk_.1.1.1.2, hk_.1.1.2, hk_.1.2⟩)); replace HO_336000 := Aside0.mk (Kd.R_mono (ok' := fun k_ => some k_ ≠ (.slice Ao44 t306.length co44 : Value).ownBlock ∧ some k_ ≠ (.slice Ao46 t309.length co46 : Value).ownBlock ∧ some k_ ≠ (.slice Ao52 t314.length co52 : Value).ownBlock ∧ some k_ ≠ (.slice Ao57 t317.length co57 : Value).ownBlock ∧ some k_ ≠ (.slice Ao62 t321.length co62 : Value).ownBlock ∧ some k_ ≠ (.slice Ao68 t324.length co68 : Value).ownBlock ∧ some k_ ≠ (.slice Ao79 t331.length co79 : Value).ownBlock ∧ some k_ ≠ (.slice Ao106 t337.length co106 : Value).ownBlock ∧ some k_ ≠ (.slice Ao107 t340.length co107 : Value).ownBlock ∧ some k_ ≠ (.slice Ao111 t344.length co111 : Value).ownBlock ∧ some k_ ≠ (.slice Ao112 t347.length co112 : Value).ownBlock) (Kd.R_keptB (HO_336000.out) hkp (fun k_ hk_ hs_ => Or.elim hs_ (fun e_ => (hk_.2.2.2.2.1) e_) (fun e_ => (hk_.2.2.2.2.2.1) e_))) (fun k_ hk_ => ⟨hk_.1.1, hk_.1.2.1, hk_.1.2.2.1, hk_.1.2.2.2.1, hk_.1.2.2.2.2.1, hk_.1.2.2.2.2.2.1, hk_.1.2.2.2.2.2.2.1, hk_.1.2.2.2.2.2.2.2.1, hk_.1.2.2.2.2.2.2.2.2.1, hk_.1.2.2.2.2.2.2.2.2.2.1, hk_.1.2.2.2.2.2.2.2.2.2.2⟩)); replace HO_336001 := Aside0.mk (Kd.R_mono (ok' := fun k_ => some k_ ≠ (.slice Ao44 t306.length co44 : Value).ownBlock ∧ some k_ ≠ (.slice Ao46 t309.length co46 : Value).ownBlock ∧ some k_ ≠ (.slice Ao52 t314.length co52 : Value).ownBlock ∧ some k_ ≠ (.slice Ao57 t317.length co57 : Value).ownBlock ∧ some k_ ≠ (.slice Ao62 t321.length co62 : Value).ownBlock ∧ some k_ ≠ (.slice Ao68 t324.length co68 : Value).ownBlock ∧ some k_ ≠ (.slice Ao72 t328.length co72 : Value).ownBlock ∧ some k_ ≠ (.slice Ao106 t337.length co106 : Value).ownBlock ∧ some k_ ≠ (.slice Ao107 t340.length co107 : Value).ownBlock ∧ some k_ ≠ (.slice Ao111 t344.length co111 : Value).ownBlock ∧ some k_ ≠ (.slice Ao112 t347.length co112 : Value).ownBlock) (Kd.R_keptB (HO_336001.out) hkp (fun k_ hk_ hs_ => Or.elim hs_ (fun e_ => (hk_.2.2.2.2.1) e_) (fun e_ => (hk_.2.2.2.2.2.1) e_))) (fun k_ hk_ => ⟨hk_.1.1, hk_.1.2.1, hk_.1.2.2.1, hk_.1.2.2.2.1, hk_.1.2.2.2.2.1, hk_.1.2.2.2.2.2.1, hk_.1.2.2.2.2.2.2.1, hk_.1.2.2.2.2.2.2.2.1, hk_.1.2.2.2.2.2.2.2.2.1, hk_.1.2.2.2.2.2.2.2.2.2.1, hk_.1.2.2.2.2.2.2.2.2.2.2⟩)); replace BK290 := Aside0.mk (blk_kept (kU BK290.out) hkp (fun hs_ => Or.elim hs_ (fun e_ => (fun e_ => (Kd.R_ne HO_328000.out BK290.out (by decide)) e_) e_) (fun e_ => (fun e_ => (Kd.R_ne HO_328001.out BK290.out (by decide)) e_) e_))); replace BK291 := Aside0.mk (blk_kept (kU BK291.out) hkp (fun hs_ => Or.elim hs_ (fun e_ => (fun e_ => (Kd.R_ne HO_328000.out BK291.out (by decide)) e_) e_) (fun e_ => (fun e_ => (Kd.R_ne HO_328001.out BK291.out (by decide)) e_) e_))); replace BK313 := Aside0.mk (blk_kept (kU BK313.out) hkp (fun hs_ => Or.elim hs_ (fun e_ => (fun e_ => (Kd.R_ne HO_328000.out BK313.out (by decide)) e_) e_) (fun e_ => (fun e_ => (Kd.R_ne HO_328001.out BK313.out (by decide)) e_) e_))); replace BK320 := Aside0.mk (blk_kept (kU BK320.out) hkp (fun hs_ => Or.elim hs_ (fun e_ => (fun e_ => (Kd.R_ne HO_328000.out BK320.out (by decide)) e_) e_) (fun e_ => (fun e_ => (Kd.R_ne HO_328001.out BK320.out (by decide)) e_) e_))); replace BK327 := Aside0.mk (blk_kept (kU BK327.out) hkp (fun hs_ => Or.elim hs_ (fun e_ => (fun e_ => (Kd.R_ne HO_328000.out BK327.out (by decide)) e_) e_) (fun e_ => (fun e_ => (Kd.R_ne HO_328001.out BK327.out (by decide)) e_) e_))); replace BK335 := Aside0.mk (blk_kept (kU BK335.out) hkp (fun hs_ => Or.elim hs_ (fun e_ => (fun e_ => (Kd.R_ne HO_328000.out BK335.out (by decide)) e_) e_) (fun e_ => (fun e_ => (Kd.R_ne HO_328001.out BK335.out (by decide)) e_) e_))); replace HO_328000 := Aside0.mk (Kd.R_reok rfl hy0 (fun k_ e_ => HO_328000.out.1 k_ e_)); replace HO_328001 := Aside0.mk (Kd.R_reok rfl hy1 (fun k_ e_ => HO_328001.out.1 k_ e_)); replace HO339 := Aside0.mk (Kd.R_mono (ok' := fun k_ => some k_ ≠ (.slice Ao44 t306.length co44 : Value).ownBlock ∧ some k_ ≠ (.slice Ao46 t309.length co46 : Value).ownBlock ∧ some k_ ≠ (.slice Ao52 t314.length co52 : Value).ownBlock ∧ some k_ ≠ (.slice Ao57 t317.length co57 : Value).ownBlock ∧ some k_ ≠ (.slice Ao62 t321.length co62 : Value).ownBlock ∧ some k_ ≠ (.slice Ao68 t324.length co68 : Value).ownBlock ∧ some k_ ≠ (.slice Ao72 t328.length co72 : Value).ownBlock ∧ some k_ ≠ (.slice Ao79 t331.length co79 : Value).ownBlock ∧ some k_ ≠ (.slice Ao107 t340.length co107 : Value).ownBlock ∧ some k_ ≠ (.slice Ao111 t344.length co111 : Value).ownBlock ∧ some k_ ≠ (.slice Ao112 t347.length co112 : Value).ownBlock) (Kd.R_keptB (HO339.out) hkp (fun k_ hk_ hs_ => Or.elim hs_ (fun e_ => (hk_.2.2.2.2.1) e_) (fun e_ => (hk_.2.2.2.2.2.1) e_))) (fun k_ hk_ => ⟨hk_.1.1, hk_.1.2.1, hk_.1.2.2.1, hk_.1.2.2.2.1, hk_.1.2.2.2.2.1, hk_.1.2.2.2.2.2.1, hk_.1.2.2.2.2.2.2.1, hk_.1.2.2.2.2.2.2.2.1, hk_.1.2.2.2.2.2.2.2.2.1, hk_.1.2.2.2.2.2.2.2.2.2.1, hk_.1.2.2.2.2.2.2.2.2.2.2⟩)); replace HO342 := Aside0.mk (Kd.R_mono (ok' := fun k_ => some k_ ≠ (.slice Ao44 t306.length co44 : Value).ownBlock ∧ some k_ ≠ (.slice Ao46 t309.length co46 : Value).ownBlock ∧ some k_ ≠ (.slice Ao52 t314.length co52 : Value).ownBlock ∧ some k_ ≠ (.slice Ao57 t317.length co57 : Value).ownBlock ∧ some k_ ≠ (.slice Ao62 t321.length co62 : Value).ownBlock ∧ some k_ ≠ (.slice Ao68 t324.length co68 : Value).ownBlock ∧ some k_ ≠ (.slice Ao72 t328.length co72 : Value).ownBlock ∧ some k_ ≠ (.slice Ao79 t331.length co79 : Value).ownBlock ∧ some k_ ≠ (.slice Ao106 t337.length co106 : Value).ownBlock ∧ some k_ ≠ (.slice Ao111 t344.length co111 : Value).ownBlock ∧ some k_ ≠ (.slice Ao112 t347.length co112 : Value).ownBlock) (Kd.R_keptB (HO342.out) hkp (fun k_ hk_ hs_ => Or.elim hs_ (fun e_ => (hk_.2.2.2.2.1) e_) (fun e_ => (hk_.2.2.2.2.2.1) e_))) (fun k_ hk_ => ⟨hk_.1.1, hk_.1.2.1, hk_.1.2.2.1, hk_.1.2.2.2.1, hk_.1.2.2.2.2.1, hk_.1.2.2.2.2.2.1, hk_.1.2.2.2.2.2.2.1, hk_.1.2.2.2.2.2.2.2.1, hk_.1.2.2.2.2.2.2.2.2.1, hk_.1.2.2.2.2.2.2.2.2.2.1, hk_.1.2.2.2.2.2.2.2.2.2.2⟩)); replace HO346 := Aside0.mk (Kd.R_mono (ok' := fun k_ => some k_ ≠ (.slice Ao44 t306.length co44 : Value).ownBlock ∧ some k_ ≠ (.slice Ao46 t309.length co46 : Value).ownBlock ∧ some k_ ≠ (.slice Ao52 t314.length co52 : Value).ownBlock ∧ some k_ ≠ (.slice Ao57 t317.length co57 : Value).ownBlock ∧ some k_ ≠ (.slice Ao62 t321.length co62 : Value).ownBlock ∧ some k_ ≠ (.slice Ao68 t324.length co68 : Value).ownBlock ∧ some k_ ≠ (.slice Ao72 t328.length co72 : Value).ownBlock ∧ some k_ ≠ (.slice Ao79 t331.length co79 : Value).ownBlock ∧ some k_ ≠ (.slice Ao106 t337.length co106 : Value).ownBlock ∧ some k_ ≠ (.slice Ao107 t340.length co107 : Value).ownBlock ∧ some k_ ≠ (.slice Ao112 t347.length co112 : Value).ownBlock) (Kd.R_keptB (HO346.out) hkp (fun k_ hk_ hs_ => Or.elim hs_ (fun e_ => (hk_.2.2.2.2.1) e_) (fun e_ => (hk_.2.2.2.2.2.1) e_))) (fun k_ hk_ => ⟨hk_.1.1, hk_.1.2.1, hk_.1.2.2.1, hk_.1.2.2.2.1, hk_.1.2.2.2.2.1, hk_.1.2.2.2.2.2.1, hk_.1.2.2.2.2.2.2.1, hk_.1.2.2.2.2.2.2.2.1, hk_.1.2.2.2.2.2.2.2.2.1, hk_.1.2.2.2.2.2.2.2.2.2.1, hk_.1.2.2.2.2.2.2.2.2.2.2⟩)); replace HO349 := Aside0.mk (Kd.R_mono (ok' := fun k_ => some k_ ≠ (.slice Ao44 t306.length co44 : Value).ownBlock ∧ some k_ ≠ (.slice Ao46 t309.length co46 : Value).ownBlock ∧ some k_ ≠ (.slice Ao52 t314.length co52 : Value).ownBlock ∧ some k_ ≠ (.slice Ao57 t317.length co57 : Value).ownBlock ∧ some k_ ≠ (.slice Ao62 t321.length co62 : Value).ownBlock ∧ some k_ ≠ (.slice Ao68 t324.length co68 : Value).ownBlock ∧ some k_ ≠ (.slice Ao72 t328.length co72 : Value).ownBlock ∧ some k_ ≠ (.slice Ao79 t331.length co79 : Value).ownBlock ∧ some k_ ≠ (.slice Ao106 t337.length co106 : Value).ownBlock ∧ some k_ ≠ (.slice Ao107 t340.length co107 : Value).ownBlock ∧ some k_ ≠ (.slice Ao111 t344.length co111 : Value).ownBlock) (Kd.R_keptB (HO349.out) hkp (fun k_ hk_ hs_ => Or.elim hs_ (fun e_ => (hk_.2.2.2.2.1) e_) (fun e_ => (hk_.2.2.2.2.2.1) e_))) (fun k_ hk_ => ⟨hk_.1.1, hk_.1.2.1, hk_.1.2.2.1, hk_.1.2.2.2.1, hk_.1.2.2.2.2.1, hk_.1.2.2.2.2.2.1, hk_.1.2.2.2.2.2.2.1, hk_.1.2.2.2.2.2.2.2.1, hk_.1.2.2.2.2.2.2.2.2.1, hk_.1.2.2.2.2.2.2.2.2.2.1, hk_.1.2.2.2.2.2.2.2.2.2.2⟩)); replace HB := Aside0.mk (hb); (try clear hb); (try clear hkp); (try clear hy0); (try clear hy1)))
        (try simp only [Act.put, List.setIfInBounds_toArray, List.set_cons_zero, List.set_cons_succ])
        go_cut [86] (fun v86 wc => ∃ (kq : Nat) (x86_102 : Bool), v86 = .bool x86_102 ∧ Aside0 (laws_FnExactEachTwo.j1 kq a0 t312 x86_102 l1_0 l1_1 l2_0 l2_1 t306 t309 t328 t331 = some r) ∧ Aside0 (kq ≤ kj25) ∧ Aside0 (Kd.R (Kd.int .i64) 3 wc w.heap.size (fun k_ => some k_ ≠ ((.slice Ao46 t309.length co46) : Value).ownBlock ∧ some k_ ≠ ((.slice Ao52 t314.length co52) : Value).ownBlock ∧ some k_ ≠ ((.slice Ao57 t317.length co57) : Value).ownBlock ∧ some k_ ≠ ((.slice Ao62 t321.length co62) : Value).ownBlock ∧ some k_ ≠ ((.slice Ao68 t324.length co68) : Value).ownBlock ∧ some k_ ≠ ((.slice Ao72 t328.length co72) : Value).ownBlock ∧ some k_ ≠ ((.slice Ao79 t331.length co79) : Value).ownBlock) (.slice Ao44 t306.length co44) t306) ∧ Aside0 (Kd.R (Kd.int .i64) 3 wc w.heap.size (fun k_ => some k_ ≠ ((.slice Ao44 t306.length co44) : Value).ownBlock ∧ some k_ ≠ ((.slice Ao52 t314.length co52) : Value).ownBlock ∧ some k_ ≠ ((.slice Ao57 t317.length co57) : Value).ownBlock ∧ some k_ ≠ ((.slice Ao62 t321.length co62) : Value).ownBlock ∧ some k_ ≠ ((.slice Ao68 t324.length co68) : Value).ownBlock ∧ some k_ ≠ ((.slice Ao72 t328.length co72) : Value).ownBlock ∧ some k_ ≠ ((.slice Ao79 t331.length co79) : Value).ownBlock) (.slice Ao46 t309.length co46) t309) ∧ Aside0 (Kd.R (Kd.int .i64) 3 wc w.heap.size (fun k_ => some k_ ≠ ((.slice Ao44 t306.length co44) : Value).ownBlock ∧ some k_ ≠ ((.slice Ao46 t309.length co46) : Value).ownBlock ∧ some k_ ≠ ((.slice Ao57 t317.length co57) : Value).ownBlock ∧ some k_ ≠ ((.slice Ao62 t321.length co62) : Value).ownBlock ∧ some k_ ≠ ((.slice Ao68 t324.length co68) : Value).ownBlock ∧ some k_ ≠ ((.slice Ao72 t328.length co72) : Value).ownBlock ∧ some k_ ≠ ((.slice Ao79 t331.length co79) : Value).ownBlock) (.slice Ao52 t314.length co52) t352) ∧ Aside0 (Kd.R (Kd.int .i64) 3 wc w.heap.size (fun k_ => some k_ ≠ ((.slice Ao44 t306.length co44) : Value).ownBlock ∧ some k_ ≠ ((.slice Ao46 t309.length co46) : Value).ownBlock ∧ some k_ ≠ ((.slice Ao52 t314.length co52) : Value).ownBlock ∧ some k_ ≠ ((.slice Ao62 t321.length co62) : Value).ownBlock ∧ some k_ ≠ ((.slice Ao68 t324.length co68) : Value).ownBlock ∧ some k_ ≠ ((.slice Ao72 t328.length co72) : Value).ownBlock ∧ some k_ ≠ ((.slice Ao79 t331.length co79) : Value).ownBlock) (.slice Ao57 t317.length co57) t353) ∧ Aside0 (Kd.R (Kd.int .i64) 3 wc w.heap.size (fun k_ => some k_ ≠ ((.slice Ao44 t306.length co44) : Value).ownBlock ∧ some k_ ≠ ((.slice Ao46 t309.length co46) : Value).ownBlock ∧ some k_ ≠ ((.slice Ao52 t314.length co52) : Value).ownBlock ∧ some k_ ≠ ((.slice Ao57 t317.length co57) : Value).ownBlock ∧ some k_ ≠ ((.slice Ao68 t324.length co68) : Value).ownBlock ∧ some k_ ≠ ((.slice Ao72 t328.length co72) : Value).ownBlock ∧ some k_ ≠ ((.slice Ao79 t331.length co79) : Value).ownBlock) (.slice Ao62 t321.length co62) t355) ∧ Aside0 (Kd.R (Kd.int .i64) 3 wc w.heap.size (fun k_ => some k_ ≠ ((.slice Ao44 t306.length co44) : Value).ownBlock ∧ some k_ ≠ ((.slice Ao46 t309.length co46) : Value).ownBlock ∧ some k_ ≠ ((.slice Ao52 t314.length co52) : Value).ownBlock ∧ some k_ ≠ ((.slice Ao57 t317.length co57) : Value).ownBlock ∧ some k_ ≠ ((.slice Ao62 t321.length co62) : Value).ownBlock ∧ some k_ ≠ ((.slice Ao72 t328.length co72) : Value).ownBlock ∧ some k_ ≠ ((.slice Ao79 t331.length co79) : Value).ownBlock) (.slice Ao68 t324.length co68) t356) ∧ Aside0 (Kd.R (Kd.int .i64) 3 wc w.heap.size (fun k_ => some k_ ≠ ((.slice Ao44 t306.length co44) : Value).ownBlock ∧ some k_ ≠ ((.slice Ao46 t309.length co46) : Value).ownBlock ∧ some k_ ≠ ((.slice Ao52 t314.length co52) : Value).ownBlock ∧ some k_ ≠ ((.slice Ao57 t317.length co57) : Value).ownBlock ∧ some k_ ≠ ((.slice Ao62 t321.length co62) : Value).ownBlock ∧ some k_ ≠ ((.slice Ao68 t324.length co68) : Value).ownBlock ∧ some k_ ≠ ((.slice Ao79 t331.length co79) : Value).ownBlock) (.slice Ao72 t328.length co72) t328) ∧ Aside0 (Kd.R (Kd.int .i64) 3 wc w.heap.size (fun k_ => some k_ ≠ ((.slice Ao44 t306.length co44) : Value).ownBlock ∧ some k_ ≠ ((.slice Ao46 t309.length co46) : Value).ownBlock ∧ some k_ ≠ ((.slice Ao52 t314.length co52) : Value).ownBlock ∧ some k_ ≠ ((.slice Ao57 t317.length co57) : Value).ownBlock ∧ some k_ ≠ ((.slice Ao62 t321.length co62) : Value).ownBlock ∧ some k_ ≠ ((.slice Ao68 t324.length co68) : Value).ownBlock ∧ some k_ ≠ ((.slice Ao72 t328.length co72) : Value).ownBlock) (.slice Ao79 t331.length co79) t331) ∧ Aside0 (wc.heap[gb290]? = some (.cells #[(.slice A1_0 l1_0.length c1_0), (.slice A1_1 l1_1.length c1_1)] 24 (0, 0))) ∧ Aside0 (wc.heap[gb291]? = some (.cells #[(.slice A2_0 l2_0.length c2_0), (.slice A2_1 l2_1.length c2_1)] 24 (0, 0))) ∧ Aside0 (wc.heap[gb313]? = some (.cells #[(.slice Ao44 t306.length co44), (.slice Ao46 t309.length co46)] 26 (0, 0))) ∧ Aside0 (wc.heap[gb320]? = some (.cells #[(.slice Ao52 t314.length co52), (.slice Ao57 t317.length co57)] 26 (0, 0))) ∧ Aside0 (wc.heap[gb327]? = some (.cells #[(.slice Ao62 t321.length co62), (.slice Ao68 t324.length co68)] 26 (0, 0))) ∧ Aside0 (wc.heap[gb335]? = some (.cells #[(.slice Ao72 t328.length co72), (.slice Ao79 t331.length co79)] 26 (0, 0))) ∧ Aside0 (Below w.heap.size w wc))
        case first =>
         have H := HC103.out
         clear HC103
         by_cases c127 : t354 < 0
         ·
          rw [if_pos c127] at H
          have c127b0 : decide (t354 < 0) = true := decide_eq_true c127
          clear c127
          (first | rw [c127b0] | (simp only [i64_w, i32_w]; rw [c127b0]) | skip)
          have hz_ : ∀ kz, laws_FnExactEachTwo.j1 kz a0 t312 true l1_0 l1_1 l2_0 l2_1 t306 t309 t328 t331 = some r → r = false := by intro kz hz; cases kz with | zero => exact absurd hz (by simp [laws_FnExactEachTwo.j1]) | succ kz => simp only [laws_FnExactEachTwo.j1] at hz; first | (rw [if_pos rfl] at hz; exact (Option.some.inj hz).symm) | (simp at hz; exact hz.symm) | (simp at hz; exact hz)
          exact absurd (HT.out.symm.trans (hz_ _ H)) (by decide)
         ·
          rw [if_neg c127] at H
          have c127b0 : decide (t354 < 0) = false := decide_eq_false c127
          clear c127
          (first | rw [c127b0] | (simp only [i64_w, i32_w]; rw [c127b0]) | skip)
          replace H := Option.bind_eq_some_iff.mp H
          obtain ⟨t357, A1280, H⟩ := H
          replace H : (if t357 = true then (laws_FnExactEachTwo.j1 kj25 a0 t312 (t334 != t312) l1_0 l1_1 l2_0 l2_1 t306 t309 t328 t331) else (laws_FnExactEachTwo.j1 kj25 a0 t312 true l1_0 l1_1 l2_0 l2_1 t306 t309 t328 t331)) = some r := H
          have A128 := Aside0.mk A1280
          clear A1280
          by_cases c129 : t357 = true
          ·
           subst c129
           have H1 : (laws_FnExactEachTwo.j1 kj25 a0 t312 (t334 != t312) l1_0 l1_1 l2_0 l2_1 t306 t309 t328 t331) = some r := by rw [if_pos rfl] at H; exact H
           clear H
           have H := H1
           clear H1
           have H' := Aside0.mk H
           clear H
           have hnb130 := NB335_290.out
           have hnc130 := NB290_335.out
           have hnb131 := NB335_291.out
           have hnc131 := NB291_335.out
           have hnb132 := NB335_313.out
           have hnc132 := NB313_335.out
           have hnb133 := NB335_320.out
           have hnc133 := NB320_335.out
           have hnb134 := NB335_327.out
           have hnc134 := NB327_335.out
           have hcz135_0 : w126.cell? ⟨gb335, 0, none⟩ = some (.slice Ao72 t328.length co72) := (blk_cell BK335.out 0).trans rfl
           have hcz135_1 : w126.cell? ⟨gb335, 1, none⟩ = some (.slice Ao79 t331.length co79) := (blk_cell BK335.out 1).trans rfl
           have hfz135_0 := blk_frozen BK335.out 0
           have hfz135_1 := blk_frozen BK335.out 1
           have hnb136 := NB313_290.out
           have hnc136 := NB290_313.out
           have hnb137 := NB313_291.out
           have hnc137 := NB291_313.out
           have hnb138 := NB313_320.out
           have hnc138 := NB320_313.out
           have hnb139 := NB313_327.out
           have hnc139 := NB327_313.out
           have hcz140_0 : w126.cell? ⟨gb313, 0, none⟩ = some (.slice Ao44 t306.length co44) := (blk_cell BK313.out 0).trans rfl
           have hcz140_1 : w126.cell? ⟨gb313, 1, none⟩ = some (.slice Ao46 t309.length co46) := (blk_cell BK313.out 1).trans rfl
           have hfz140_0 := blk_frozen BK313.out 0
           have hfz140_1 := blk_frozen BK313.out 1
           go_wp2_with (first | (go_at_call 9; (repeat rw [i64_w]); (with_reducible refine (laws_eqArray.calls kj25 _ _ t328 _ _ t331 _ _ t306 _ _ t309 true _ ?side1 ?side2 ?side3 ?side4 ?side5 ?side6 ?side7 ?side8 A128.out).mono ?_); (case side1 => exact cU (Kd.R_reads' HO_336000.out).2.2); (case side2 => exact (Kd.R_reads' HO_336000.out).2.1); (case side3 => exact cU (Kd.R_reads' HO_336001.out).2.2); (case side4 => exact (Kd.R_reads' HO_336001.out).2.1); (case side5 => exact cU (Kd.R_reads' HO_314000.out).2.2); (case side6 => exact (Kd.R_reads' HO_314000.out).2.1); (case side7 => exact cU (Kd.R_reads' HO_314001.out).2.2); (case side8 => exact (Kd.R_reads' HO_314001.out).2.1); rintro e w141 ⟨rfl, hb⟩; replace HO_314000 := Aside0.mk (Kd.R_below (RU HO_314000.out) hb); replace HO_314001 := Aside0.mk (Kd.R_below (RU HO_314001.out) hb); replace HO_321000 := Aside0.mk (Kd.R_below (RU HO_321000.out) hb); replace HO_321001 := Aside0.mk (Kd.R_below (RU HO_321001.out) hb); replace HO_328000 := Aside0.mk (Kd.R_below (RU HO_328000.out) hb); replace HO_328001 := Aside0.mk (Kd.R_below (RU HO_328001.out) hb); replace HO_336000 := Aside0.mk (Kd.R_below (RU HO_336000.out) hb); replace HO_336001 := Aside0.mk (Kd.R_below (RU HO_336001.out) hb); replace HO339 := Aside0.mk (Kd.R_below (RU HO339.out) hb); replace HO342 := Aside0.mk (Kd.R_below (RU HO342.out) hb); replace HO346 := Aside0.mk (Kd.R_below (RU HO346.out) hb); replace HO349 := Aside0.mk (Kd.R_below (RU HO349.out) hb); replace BK290 := Aside0.mk (blk_below (g := gb290) (o := .cells #[.slice A1_0 l1_0.length c1_0, .slice A1_1 l1_1.length c1_1] 24 (0, 0)) (kU BK290.out) hb); replace BK291 := Aside0.mk (blk_below (g := gb291) (o := .cells #[.slice A2_0 l2_0.length c2_0, .slice A2_1 l2_1.length c2_1] 24 (0, 0)) (kU BK291.out) hb); replace BK313 := Aside0.mk (blk_below (g := gb313) (o := .cells #[.slice Ao44 t306.length co44, .slice Ao46 t309.length co46] 26 (0, 0)) (kU BK313.out) hb); replace BK320 := Aside0.mk (blk_below (g := gb320) (o := .cells #[.slice Ao52 t314.length co52, .slice Ao57 t317.length co57] 26 (0, 0)) (kU BK320.out) hb); replace BK327 := Aside0.mk (blk_below (g := gb327) (o := .cells #[.slice Ao62 t321.length co62, .slice Ao68 t324.length co68] 26 (0, 0)) (kU BK327.out) hb); replace BK335 := Aside0.mk (blk_below (g := gb335) (o := .cells #[.slice Ao72 t328.length co72, .slice Ao79 t331.length co79] 26 (0, 0)) (kU BK335.out) hb); replace HB := Aside0.mk (below_step (by repeat (first | (with_reducible first | exact HB.out | apply below_alloc | apply pw_below_drewN | apply below_drew1 | refine below_set ?_ GE290.out | refine below_set ?_ GE291.out | refine below_set ?_ GE313.out | refine below_set ?_ GE320.out | refine below_set ?_ GE327.out | refine below_set ?_ GE335.out) | exact HB.out)) hb); (try clear hb); (try clear hb2); (try clear hk); (try clear hi)))
           go_meet
           case rel => exact ⟨_, ((t334 != t312)), (by first | rfl | (simp; done) | (simp [*]; done)), H', ⟨by have := HJ25.out; first | omega | exact Nat.le_refl _⟩, ⟨by (with_reducible repeat (first | apply Kd.R_alloc | apply Kd.R_drewN | apply Kd.R_drew)); exact Kd.R_mono HO_314000.out (fun _ hk => ⟨hk.1, ⟨hk.2.1, ⟨hk.2.2.1, ⟨hk.2.2.2.1, ⟨hk.2.2.2.2.1, ⟨hk.2.2.2.2.2.1, hk.2.2.2.2.2.2.1⟩⟩⟩⟩⟩⟩)⟩, ⟨by (with_reducible repeat (first | apply Kd.R_alloc | apply Kd.R_drewN | apply Kd.R_drew)); exact Kd.R_mono HO_314001.out (fun _ hk => ⟨hk.1, ⟨hk.2.1, ⟨hk.2.2.1, ⟨hk.2.2.2.1, ⟨hk.2.2.2.2.1, ⟨hk.2.2.2.2.2.1, hk.2.2.2.2.2.2.1⟩⟩⟩⟩⟩⟩)⟩, ⟨by (with_reducible repeat (first | apply Kd.R_alloc | apply Kd.R_drewN | apply Kd.R_drew)); exact Kd.R_mono HO_321000.out (fun _ hk => ⟨hk.1, ⟨hk.2.1, ⟨hk.2.2.1, ⟨hk.2.2.2.1, ⟨hk.2.2.2.2.1, ⟨hk.2.2.2.2.2.1, hk.2.2.2.2.2.2.1⟩⟩⟩⟩⟩⟩)⟩, ⟨by (with_reducible repeat (first | apply Kd.R_alloc | apply Kd.R_drewN | apply Kd.R_drew)); exact Kd.R_mono HO_321001.out (fun _ hk => ⟨hk.1, ⟨hk.2.1, ⟨hk.2.2.1, ⟨hk.2.2.2.1, ⟨hk.2.2.2.2.1, ⟨hk.2.2.2.2.2.1, hk.2.2.2.2.2.2.1⟩⟩⟩⟩⟩⟩)⟩, ⟨by (with_reducible repeat (first | apply Kd.R_alloc | apply Kd.R_drewN | apply Kd.R_drew)); exact Kd.R_mono HO_328000.out (fun _ hk => ⟨hk.1, ⟨hk.2.1, ⟨hk.2.2.1, ⟨hk.2.2.2.1, ⟨hk.2.2.2.2.1, ⟨hk.2.2.2.2.2.1, hk.2.2.2.2.2.2.1⟩⟩⟩⟩⟩⟩)⟩, ⟨by (with_reducible repeat (first | apply Kd.R_alloc | apply Kd.R_drewN | apply Kd.R_drew)); exact Kd.R_mono HO_328001.out (fun _ hk => ⟨hk.1, ⟨hk.2.1, ⟨hk.2.2.1, ⟨hk.2.2.2.1, ⟨hk.2.2.2.2.1, ⟨hk.2.2.2.2.2.1, hk.2.2.2.2.2.2.1⟩⟩⟩⟩⟩⟩)⟩, ⟨by (with_reducible repeat (first | apply Kd.R_alloc | apply Kd.R_drewN | apply Kd.R_drew)); exact Kd.R_mono HO_336000.out (fun _ hk => ⟨hk.1, ⟨hk.2.1, ⟨hk.2.2.1, ⟨hk.2.2.2.1, ⟨hk.2.2.2.2.1, ⟨hk.2.2.2.2.2.1, hk.2.2.2.2.2.2.1⟩⟩⟩⟩⟩⟩)⟩, ⟨by (with_reducible repeat (first | apply Kd.R_alloc | apply Kd.R_drewN | apply Kd.R_drew)); exact Kd.R_mono HO_336001.out (fun _ hk => ⟨hk.1, ⟨hk.2.1, ⟨hk.2.2.1, ⟨hk.2.2.2.1, ⟨hk.2.2.2.2.1, ⟨hk.2.2.2.2.2.1, hk.2.2.2.2.2.2.1⟩⟩⟩⟩⟩⟩)⟩, ⟨by (with_reducible repeat (first | refine blk_drewN ?_ _ | refine blk_drew ?_ | refine blk_alloc ?_ _)); exact BK290.out⟩, ⟨by (with_reducible repeat (first | refine blk_drewN ?_ _ | refine blk_drew ?_ | refine blk_alloc ?_ _)); exact BK291.out⟩, ⟨by (with_reducible repeat (first | refine blk_drewN ?_ _ | refine blk_drew ?_ | refine blk_alloc ?_ _)); exact BK313.out⟩, ⟨by (with_reducible repeat (first | refine blk_drewN ?_ _ | refine blk_drew ?_ | refine blk_alloc ?_ _)); exact BK320.out⟩, ⟨by (with_reducible repeat (first | refine blk_drewN ?_ _ | refine blk_drew ?_ | refine blk_alloc ?_ _)); exact BK327.out⟩, ⟨by (with_reducible repeat (first | refine blk_drewN ?_ _ | refine blk_drew ?_ | refine blk_alloc ?_ _)); exact BK335.out⟩, ⟨by repeat (first | (with_reducible first | exact HB.out | apply below_alloc | apply pw_below_drewN | apply below_drew1 | refine below_set ?_ GE290.out | refine below_set ?_ GE291.out | refine below_set ?_ GE313.out | refine below_set ?_ GE320.out | refine below_set ?_ GE327.out | refine below_set ?_ GE335.out) | exact HB.out)⟩⟩
          ·
           replace c129 := Bool.eq_false_iff.mpr c129
           subst c129
           have H1 : (laws_FnExactEachTwo.j1 kj25 a0 t312 true l1_0 l1_1 l2_0 l2_1 t306 t309 t328 t331) = some r := by rw [if_neg (show ¬ (false = true) by decide)] at H; exact H
           clear H
           have H := H1
           clear H1
           have hz_ : ∀ kz, laws_FnExactEachTwo.j1 kz a0 t312 true l1_0 l1_1 l2_0 l2_1 t306 t309 t328 t331 = some r → r = false := by intro kz hz; cases kz with | zero => exact absurd hz (by simp [laws_FnExactEachTwo.j1]) | succ kz => simp only [laws_FnExactEachTwo.j1] at hz; first | (rw [if_pos rfl] at hz; exact (Option.some.inj hz).symm) | (simp at hz; exact hz.symm) | (simp at hz; exact hz)
           exact absurd (HT.out.symm.trans (hz_ _ H)) (by decide)
        case rest =>
         clear HC103
         try clear c1
         try clear c2
         try clear p2
         try clear c7
         try clear c9
         try clear c10
         try clear c11
         try clear c12
         try clear c13
         try clear c97
         try clear c100
         try clear c114
         try clear c115
         try clear c116
         try clear c117
         try clear c118
         try clear c121
         try clear c122
         try clear c123
         try clear c124
         try clear c127
         try clear c127b0
         try clear c129
         try clear c130
         try clear c131
         try clear c132
         try clear c133
         try clear c134
         try clear c136
         try clear c137
         try clear c138
         try clear c139
         try clear hcz119_0
         try clear hcz119_1
         try clear hcz125_0
         try clear hcz125_1
         try clear hcz135_0
         try clear hcz135_1
         try clear hcz140_0
         try clear hcz140_1
         try clear hfz119_0
         try clear hfz119_1
         try clear hfz125_0
         try clear hfz125_1
         try clear hfz135_0
         try clear hfz135_1
         try clear hfz140_0
         try clear hfz140_1
         obtain ⟨kq, x86_102, rfl, HA, HJ102, HO_314000, HO_314001, HO_321000, HO_321001, HO_328000, HO_328001, HO_336000, HO_336001, BK290, BK291, BK313, BK320, BK327, BK335, HB⟩ := hcut
         have hl321000_102 := (Kd.R_reads' HO_321000.out).1
         rw [hl321000_102] at HO_321000
         (try simp only [hl321000_102])
         (try simp only [hl321000_102] at BK290)
         (try simp only [hl321000_102] at BK291)
         (try simp only [hl321000_102] at BK313)
         (try simp only [hl321000_102] at BK320)
         (try simp only [hl321000_102] at BK327)
         (try simp only [hl321000_102] at BK335)
         (try simp only [hl321000_102] at HO_314000)
         (try simp only [hl321000_102] at HO_314001)
         (try simp only [hl321000_102] at HO_321001)
         (try simp only [hl321000_102] at HO_328000)
         (try simp only [hl321000_102] at HO_328001)
         (try simp only [hl321000_102] at HO_336000)
         (try simp only [hl321000_102] at HO_336001)
         have hl321001_102 := (Kd.R_reads' HO_321001.out).1
         rw [hl321001_102] at HO_321001
         (try simp only [hl321001_102])
         (try simp only [hl321001_102] at BK290)
         (try simp only [hl321001_102] at BK291)
         (try simp only [hl321001_102] at BK313)
         (try simp only [hl321001_102] at BK320)
         (try simp only [hl321001_102] at BK327)
         (try simp only [hl321001_102] at BK335)
         (try simp only [hl321001_102] at HO_314000)
         (try simp only [hl321001_102] at HO_314001)
         (try simp only [hl321001_102] at HO_321000)
         (try simp only [hl321001_102] at HO_328000)
         (try simp only [hl321001_102] at HO_328001)
         (try simp only [hl321001_102] at HO_336000)
         (try simp only [hl321001_102] at HO_336001)
         have hl328000_102 := (Kd.R_reads' HO_328000.out).1
         rw [hl328000_102] at HO_328000
         (try simp only [hl328000_102])
         (try simp only [hl328000_102] at BK290)
         (try simp only [hl328000_102] at BK291)
         (try simp only [hl328000_102] at BK313)
         (try simp only [hl328000_102] at BK320)
         (try simp only [hl328000_102] at BK327)
         (try simp only [hl328000_102] at BK335)
         (try simp only [hl328000_102] at HO_314000)
         (try simp only [hl328000_102] at HO_314001)
         (try simp only [hl328000_102] at HO_321000)
         (try simp only [hl328000_102] at HO_321001)
         (try simp only [hl328000_102] at HO_328001)
         (try simp only [hl328000_102] at HO_336000)
         (try simp only [hl328000_102] at HO_336001)
         have hl328001_102 := (Kd.R_reads' HO_328001.out).1
         rw [hl328001_102] at HO_328001
         (try simp only [hl328001_102])
         (try simp only [hl328001_102] at BK290)
         (try simp only [hl328001_102] at BK291)
         (try simp only [hl328001_102] at BK313)
         (try simp only [hl328001_102] at BK320)
         (try simp only [hl328001_102] at BK327)
         (try simp only [hl328001_102] at BK335)
         (try simp only [hl328001_102] at HO_314000)
         (try simp only [hl328001_102] at HO_314001)
         (try simp only [hl328001_102] at HO_321000)
         (try simp only [hl328001_102] at HO_321001)
         (try simp only [hl328001_102] at HO_328000)
         (try simp only [hl328001_102] at HO_336000)
         (try simp only [hl328001_102] at HO_336001)
         cases kq with
         | zero => exact absurd HA.out (by simp [laws_FnExactEachTwo.j1])
         | succ kj102 =>
          have H := HA.out
          clear HA
          simp only [laws_FnExactEachTwo.j1] at H
          by_cases c142 : x86_102 = true
          ·
           subst c142
           have H1 : (some false) = some r := by rw [if_pos rfl] at H; exact H
           clear H
           have H := H1
           clear H1
           obtain rfl := Option.some.inj H
           exact absurd HT.out (by decide)
          ·
           replace c142 := Bool.eq_false_iff.mpr c142
           subst c142
           have H1 : ((laws_markArray.f kj102 t328 t331 1).bind fun bt358 => ((laws_heldArray.f kj102 bt358.2.1 bt358.2.2 1).bind fun t361 => (if t361 < 0 then (some false) else (if t361 = bt358.1 then ((laws_toArray.f kj102 l1_0 l1_1).bind fun bt362 => ((laws_toArray.f kj102 l2_0 l2_1).bind fun bt368 => ((impl_EachTwo.f kj102 a0 bt362.1 bt362.2 bt368.1 bt368.2).bind fun bt374 => ((laws_eqArray.f kj102 bt374.1 bt374.2.1 t306 t309).bind fun t382 => (if t382 = true then (laws_FnExactEachTwo.j2 kj102 bt358.1 (bt374.2.2 != t312) bt358.2.1 bt358.2.2) else (laws_FnExactEachTwo.j2 kj102 bt358.1 true bt358.2.1 bt358.2.2)))))) else (some false))))) = some r := by rw [if_neg (show ¬ (false = true) by decide)] at H; exact H
           clear H
           have H := H1
           clear H1
           replace H := Option.bind_eq_some_iff.mp H
           obtain ⟨⟨t358, t359, t360⟩, A1430, H⟩ := H
           replace H : ((laws_heldArray.f kj102 t359 t360 1).bind fun t361 => (if t361 < 0 then (some false) else (if t361 = t358 then ((laws_toArray.f kj102 l1_0 l1_1).bind fun bt362 => ((laws_toArray.f kj102 l2_0 l2_1).bind fun bt368 => ((impl_EachTwo.f kj102 a0 bt362.1 bt362.2 bt368.1 bt368.2).bind fun bt374 => ((laws_eqArray.f kj102 bt374.1 bt374.2.1 t306 t309).bind fun t382 => (if t382 = true then (laws_FnExactEachTwo.j2 kj102 t358 (bt374.2.2 != t312) t359 t360) else (laws_FnExactEachTwo.j2 kj102 t358 true t359 t360)))))) else (some false)))) = some r := H
           have A143 := Aside0.mk A1430
           clear A1430
           replace H := Option.bind_eq_some_iff.mp H
           obtain ⟨t361, A1440, H⟩ := H
           replace H : (if t361 < 0 then (some false) else (if t361 = t358 then ((laws_toArray.f kj102 l1_0 l1_1).bind fun bt362 => ((laws_toArray.f kj102 l2_0 l2_1).bind fun bt368 => ((impl_EachTwo.f kj102 a0 bt362.1 bt362.2 bt368.1 bt368.2).bind fun bt374 => ((laws_eqArray.f kj102 bt374.1 bt374.2.1 t306 t309).bind fun t382 => (if t382 = true then (laws_FnExactEachTwo.j2 kj102 t358 (bt374.2.2 != t312) t359 t360) else (laws_FnExactEachTwo.j2 kj102 t358 true t359 t360)))))) else (some false))) = some r := H
           have A144 := Aside0.mk A1440
           clear A1440
           by_cases c145 : t361 < 0
           ·
            rw [if_pos c145] at H
            have c145b0 : decide (t361 < 0) = true := decide_eq_true c145
            clear c145
            obtain rfl := Option.some.inj H
            exact absurd HT.out (by decide)
           ·
            rw [if_neg c145] at H
            have c145b0 : decide (t361 < 0) = false := decide_eq_false c145
            clear c145
            by_cases c146 : t361 = t358
            ·
             rw [if_pos c146] at H
             have c146b0 : (t361 == t358) = true := beq_iff_eq.mpr c146
             have c146b1 : (t361 != t358) = false := bne_eq_false_iff_eq.mpr c146
             clear c146
             replace H := Option.bind_eq_some_iff.mp H
             obtain ⟨⟨t362, t365⟩, A1470, H⟩ := H
             replace H : ((laws_toArray.f kj102 l2_0 l2_1).bind fun bt368 => ((impl_EachTwo.f kj102 a0 t362 t365 bt368.1 bt368.2).bind fun bt374 => ((laws_eqArray.f kj102 bt374.1 bt374.2.1 t306 t309).bind fun t382 => (if t382 = true then (laws_FnExactEachTwo.j2 kj102 t358 (bt374.2.2 != t312) t359 t360) else (laws_FnExactEachTwo.j2 kj102 t358 true t359 t360))))) = some r := H
             have A147 := Aside0.mk A1470
             clear A1470
             replace H := Option.bind_eq_some_iff.mp H
             obtain ⟨⟨t368, t371⟩, A1480, H⟩ := H
             replace H : ((impl_EachTwo.f kj102 a0 t362 t365 t368 t371).bind fun bt374 => ((laws_eqArray.f kj102 bt374.1 bt374.2.1 t306 t309).bind fun t382 => (if t382 = true then (laws_FnExactEachTwo.j2 kj102 t358 (bt374.2.2 != t312) t359 t360) else (laws_FnExactEachTwo.j2 kj102 t358 true t359 t360)))) = some r := H
             have A148 := Aside0.mk A1480
             clear A1480
             replace H := Option.bind_eq_some_iff.mp H
             obtain ⟨⟨t374, t377, t380⟩, A1490, H⟩ := H
             replace H : ((laws_eqArray.f kj102 t374 t377 t306 t309).bind fun t382 => (if t382 = true then (laws_FnExactEachTwo.j2 kj102 t358 (t380 != t312) t359 t360) else (laws_FnExactEachTwo.j2 kj102 t358 true t359 t360))) = some r := H
             have A149 := Aside0.mk A1490
             clear A1490
             have HC150 := Aside0.mk H
             clear H
             have hnb151 := NB335_290.out
             have hnc151 := NB290_335.out
             have hnb152 := NB335_291.out
             have hnc152 := NB291_335.out
             have hnb153 := NB335_313.out
             have hnc153 := NB313_335.out
             have hnb154 := NB335_320.out
             have hnc154 := NB320_335.out
             have hnb155 := NB335_327.out
             have hnc155 := NB327_335.out
             have hcz156_0 : wc.cell? ⟨gb335, 0, none⟩ = some (.slice Ao72 t328.length co72) := (blk_cell BK335.out 0).trans rfl
             have hcz156_1 : wc.cell? ⟨gb335, 1, none⟩ = some (.slice Ao79 t331.length co79) := (blk_cell BK335.out 1).trans rfl
             have hfz156_0 := blk_frozen BK335.out 0
             have hfz156_1 := blk_frozen BK335.out 1
             try go_wp2_with (first | ((with_reducible refine gate_callee (f := 10) rfl ?_); refine goesL_ (some 89) rfl rfl Try.func10 (by kernel_rfl) rfl #[.agg #[.slice Ao72 t328.length co72, .slice Ao79 t331.length co79], .int .i64 1] rfl (by (try simp only [List.map_toArray, List.map_cons, List.map_nil]); first | done | rfl | (simp only [List.length_drop, List.length_take]; rfl)) ?_; (with_reducible refine (laws_markArray.calls kj102 (fun k_ => some k_ = (.slice Ao72 t328.length co72 : Value).ownBlock) (.slice Ao72 t328.length co72) t328 (fun k_ => some k_ = (.slice Ao79 t331.length co79 : Value).ownBlock) (.slice Ao79 t331.length co79) t331 1 t358 t359 t360 w _ ?side1 ?side2 ?side3 ?side4 ?side5 A143.out).mono ?_); (case side1 => repeat (first | (with_reducible first | exact HB.out | apply below_alloc | apply pw_below_drewN | apply below_drew1 | refine below_set ?_ GE290.out | refine below_set ?_ GE291.out | refine below_set ?_ GE313.out | refine below_set ?_ GE320.out | refine below_set ?_ GE327.out | refine below_set ?_ GE335.out) | exact HB.out)); (case side2 => exact Kd.R_tight rfl HO_336000.out); (case side3 => exact fun k_ e_ => (HO_336000.out.1 k_ e_.symm).2.2.2.2.2.2); (case side4 => exact Kd.R_tight rfl HO_336001.out); (case side5 => exact fun k_ e_ => (HO_336001.out.1 k_ e_.symm).2.2.2.2.2.2); rintro e w157 ⟨rfl, hy0, hy1, hb, hkp⟩; refine ⟨_, rfl, ?_⟩; replace HO_314000 := Aside0.mk (Kd.R_mono (ok' := fun k_ => some k_ ≠ (.slice Ao46 t309.length co46 : Value).ownBlock ∧ some k_ ≠ (.slice Ao52 t352.length co52 : Value).ownBlock ∧ some k_ ≠ (.slice Ao57 t353.length co57 : Value).ownBlock ∧ some k_ ≠ (.slice Ao62 t355.length co62 : Value).ownBlock ∧ some k_ ≠ (.slice Ao68 t356.length co68 : Value).ownBlock ∧ some k_ ≠ (.slice Ao72 t328.length co72 : Value).ownBlock ∧ some k_ ≠ (.slice Ao79 t331.length co79 : Value).ownBlock) (Kd.R_keptB (HO_314000.out) hkp (fun k_ hk_ hs_ => Or.elim hs_ (fun e_ => (hk_.2.2.2.2.2.1) e_) (fun e_ => (hk_.2.2.2.2.2.2) e_))) (fun k_ hk_ => ⟨hk_.1.1, hk_.1.2.1, hk_.1.2.2.1, hk_.1.2.2.2.1, hk_.1.2.2.2.2.1, hk_.1.2.2.2.2.2.1, hk_.1.2.2.2.2.2.2⟩)); replace HO_314001 := Aside0.mk (Kd.R_mono (ok' := fun k_ => some k_ ≠ (.slice Ao44 t306.length co44 : Value).ownBlock ∧ some k_ ≠ (.slice Ao52 t352.length co52 : Value).ownBlock ∧ some k_ ≠ (.slice Ao57 t353.length co57 : Value).ownBlock ∧ some k_ ≠ (.slice Ao62 t355.length co62 : Value).ownBlock ∧ some k_ ≠ (.slice Ao68 t356.length co68 : Value).ownBlock ∧ some k_ ≠ (.slice Ao72 t328.length co72 : Value).ownBlock ∧ some k_ ≠ (.slice Ao79 t331.length co79 : Value).ownBlock) (Kd.R_keptB (HO_314001.out) hkp (fun k_ hk_ hs_ => Or.elim hs_ (fun e_ => (hk_.2.2.2.2.2.1) e_) (fun e_ => (hk_.2.2.2.2.2.2) e_))) (fun k_ hk_ => ⟨hk_.1.1, hk_.1.2.1, hk_.1.2.2.1, hk_.1.2.2.2.1, hk_.1.2.2.2.2.1, hk_.1.2.2.2.2.2.1, hk_.1.2.2.2.2.2.2⟩)); replace HO_321000 := Aside0.mk (Kd.R_mono (ok' := fun k_ => some k_ ≠ (.slice Ao44 t306.length co44 : Value).ownBlock ∧ some k_ ≠ (.slice Ao46 t309.length co46 : Value).ownBlock ∧ some k_ ≠ (.slice Ao57 t353.length co57 : Value).ownBlock ∧ some k_ ≠ (.slice Ao62 t355.length co62 : Value).ownBlock ∧ some k_ ≠ (.slice Ao68 t356.length co68 : Value).ownBlock ∧ some k_ ≠ (.slice Ao72 t328.length co72 : Value).ownBlock ∧ some k_ ≠ (.slice Ao79 t331.length co79 : Value).ownBlock) (Kd.R_keptB (HO_321000.out) hkp (fun k_ hk_ hs_ => Or.elim hs_ (fun e_ => (hk_.2.2.2.2.2.1) e_) (fun e_ => (hk_.2.2.2.2.2.2) e_))) (fun k_ hk_ => ⟨hk_.1.1, hk_.1.2.1, hk_.1.2.2.1, hk_.1.2.2.2.1, hk_.1.2.2.2.2.1, hk_.1.2.2.2.2.2.1, hk_.1.2.2.2.2.2.2⟩)); replace HO_321001 := Aside0.mk (Kd.R_mono (ok' := fun k_ => some k_ ≠ (.slice Ao44 t306.length co44 : Value).ownBlock ∧ some k_ ≠ (.slice Ao46 t309.length co46 : Value).ownBlock ∧ some k_ ≠ (.slice Ao52 t352.length co52 : Value).ownBlock ∧ some k_ ≠ (.slice Ao62 t355.length co62 : Value).ownBlock ∧ some k_ ≠ (.slice Ao68 t356.length co68 : Value).ownBlock ∧ some k_ ≠ (.slice Ao72 t328.length co72 : Value).ownBlock ∧ some k_ ≠ (.slice Ao79 t331.length co79 : Value).ownBlock) (Kd.R_keptB (HO_321001.out) hkp (fun k_ hk_ hs_ => Or.elim hs_ (fun e_ => (hk_.2.2.2.2.2.1) e_) (fun e_ => (hk_.2.2.2.2.2.2) e_))) (fun k_ hk_ => ⟨hk_.1.1, hk_.1.2.1, hk_.1.2.2.1, hk_.1.2.2.2.1, hk_.1.2.2.2.2.1, hk_.1.2.2.2.2.2.1, hk_.1.2.2.2.2.2.2⟩)); replace HO_328000 := Aside0.mk (Kd.R_mono (ok' := fun k_ => some k_ ≠ (.slice Ao44 t306.length co44 : Value).ownBlock ∧ some k_ ≠ (.slice Ao46 t309.length co46 : Value).ownBlock ∧ some k_ ≠ (.slice Ao52 t352.length co52 : Value).ownBlock ∧ some k_ ≠ (.slice Ao57 t353.length co57 : Value).ownBlock ∧ some k_ ≠ (.slice Ao68 t356.length co68 : Value).ownBlock ∧ some k_ ≠ (.slice Ao72 t328.length co72 : Value).ownBlock ∧ some k_ ≠ (.slice Ao79 t331.length co79 : Value).ownBlock) (Kd.R_keptB (HO_328000.out) hkp (fun k_ hk_ hs_ => Or.elim hs_ (fun e_ => (hk_.2.2.2.2.2.1) e_) (fun e_ => (hk_.2.2.2.2.2.2) e_))) (fun k_ hk_ => ⟨hk_.1.1, hk_.1.2.1, hk_.1.2.2.1, hk_.1.2.2.2.1, hk_.1.2.2.2.2.1, hk_.1.2.2.2.2.2.1, hk_.1.2.2.2.2.2.2⟩)); replace HO_328001 := Aside0.mk (Kd.R_mono (ok' := fun k_ => some k_ ≠ (.slice Ao44 t306.length co44 : Value).ownBlock ∧ some k_ ≠ (.slice Ao46 t309.length co46 : Value).ownBlock ∧ some k_ ≠ (.slice Ao52 t352.length co52 : Value).ownBlock ∧ some k_ ≠ (.slice Ao57 t353.length co57 : Value).ownBlock ∧ some k_ ≠ (.slice Ao62 t355.length co62 : Value).ownBlock ∧ some k_ ≠ (.slice Ao72 t328.length co72 : Value).ownBlock ∧ some k_ ≠ (.slice Ao79 t331.length co79 : Value).ownBlock) (Kd.R_keptB (HO_328001.out) hkp (fun k_ hk_ hs_ => Or.elim hs_ (fun e_ => (hk_.2.2.2.2.2.1) e_) (fun e_ => (hk_.2.2.2.2.2.2) e_))) (fun k_ hk_ => ⟨hk_.1.1, hk_.1.2.1, hk_.1.2.2.1, hk_.1.2.2.2.1, hk_.1.2.2.2.2.1, hk_.1.2.2.2.2.2.1, hk_.1.2.2.2.2.2.2⟩)); replace BK290 := Aside0.mk (blk_kept (kU BK290.out) hkp (fun hs_ => Or.elim hs_ (fun e_ => (fun e_ => (Kd.R_ne HO_336000.out BK290.out (by decide)) e_) e_) (fun e_ => (fun e_ => (Kd.R_ne HO_336001.out BK290.out (by decide)) e_) e_))); replace BK291 := Aside0.mk (blk_kept (kU BK291.out) hkp (fun hs_ => Or.elim hs_ (fun e_ => (fun e_ => (Kd.R_ne HO_336000.out BK291.out (by decide)) e_) e_) (fun e_ => (fun e_ => (Kd.R_ne HO_336001.out BK291.out (by decide)) e_) e_))); replace BK313 := Aside0.mk (blk_kept (kU BK313.out) hkp (fun hs_ => Or.elim hs_ (fun e_ => (fun e_ => (Kd.R_ne HO_336000.out BK313.out (by decide)) e_) e_) (fun e_ => (fun e_ => (Kd.R_ne HO_336001.out BK313.out (by decide)) e_) e_))); replace BK320 := Aside0.mk (blk_kept (kU BK320.out) hkp (fun hs_ => Or.elim hs_ (fun e_ => (fun e_ => (Kd.R_ne HO_336000.out BK320.out (by decide)) e_) e_) (fun e_ => (fun e_ => (Kd.R_ne HO_336001.out BK320.out (by decide)) e_) e_))); replace BK327 := Aside0.mk (blk_kept (kU BK327.out) hkp (fun hs_ => Or.elim hs_ (fun e_ => (fun e_ => (Kd.R_ne HO_336000.out BK327.out (by decide)) e_) e_) (fun e_ => (fun e_ => (Kd.R_ne HO_336001.out BK327.out (by decide)) e_) e_))); replace BK335 := Aside0.mk (blk_kept (kU BK335.out) hkp (fun hs_ => Or.elim hs_ (fun e_ => (fun e_ => (Kd.R_ne HO_336000.out BK335.out (by decide)) e_) e_) (fun e_ => (fun e_ => (Kd.R_ne HO_336001.out BK335.out (by decide)) e_) e_))); replace HO_336000 := Aside0.mk (Kd.R_reok rfl hy0 (fun k_ e_ => HO_336000.out.1 k_ e_)); replace HO_336001 := Aside0.mk (Kd.R_reok rfl hy1 (fun k_ e_ => HO_336001.out.1 k_ e_)); replace HB := Aside0.mk (hb); (try clear hb); (try clear hkp); (try clear hy0); (try clear hy1); have hcz158_0 : w157.cell? ⟨gb335, 0, none⟩ = some (.slice Ao72 t328.length co72) := (blk_cell BK335.out 0).trans rfl; have hcz158_1 : w157.cell? ⟨gb335, 1, none⟩ = some (.slice Ao79 t331.length co79) := (blk_cell BK335.out 1).trans rfl; have hfz158_0 := blk_frozen BK335.out 0; have hfz158_1 := blk_frozen BK335.out 1) | ((with_reducible refine gate_callee (f := 11) rfl ?_); refine goesL_ (some 92) rfl rfl Try.func11 (by kernel_rfl) rfl #[.agg #[.slice Ao72 t359.length co72, .slice Ao79 t360.length co79], .int .i64 1] rfl (by (try simp only [List.map_toArray, List.map_cons, List.map_nil]); first | done | (rw [show t359.length = t328.length from (Kd.R_reads' HO_336000.out).1.symm, show t360.length = t331.length from (Kd.R_reads' HO_336001.out).1.symm] <;> rfl) | rfl | (simp only [List.length_drop, List.length_take]; rfl)) ?_; (with_reducible refine (laws_heldArray.calls kj102 _ _ t359 _ _ t360 1 t361 _ ?side1 ?side2 ?side3 ?side4 A144.out).mono ?_); (case side1 => exact cU (Kd.R_reads' HO_336000.out).2.2); (case side2 => rw [show t359.length = t328.length from (Kd.R_reads' HO_336000.out).1.symm]; exact (Kd.R_reads' HO_336000.out).2.1); (case side3 => exact cU (Kd.R_reads' HO_336001.out).2.2); (case side4 => rw [show t360.length = t331.length from (Kd.R_reads' HO_336001.out).1.symm]; exact (Kd.R_reads' HO_336001.out).2.1); rintro e w159 ⟨rfl, hb⟩; refine ⟨_, rfl, ?_⟩; replace HO_314000 := Aside0.mk (Kd.R_below (RU HO_314000.out) hb); replace HO_314001 := Aside0.mk (Kd.R_below (RU HO_314001.out) hb); replace HO_321000 := Aside0.mk (Kd.R_below (RU HO_321000.out) hb); replace HO_321001 := Aside0.mk (Kd.R_below (RU HO_321001.out) hb); replace HO_328000 := Aside0.mk (Kd.R_below (RU HO_328000.out) hb); replace HO_328001 := Aside0.mk (Kd.R_below (RU HO_328001.out) hb); replace HO_336000 := Aside0.mk (Kd.R_below (RU HO_336000.out) hb); replace HO_336001 := Aside0.mk (Kd.R_below (RU HO_336001.out) hb); replace BK290 := Aside0.mk (blk_below (g := gb290) (o := .cells #[.slice A1_0 l1_0.length c1_0, .slice A1_1 l1_1.length c1_1] 24 (0, 0)) (kU BK290.out) hb); replace BK291 := Aside0.mk (blk_below (g := gb291) (o := .cells #[.slice A2_0 l2_0.length c2_0, .slice A2_1 l2_1.length c2_1] 24 (0, 0)) (kU BK291.out) hb); replace BK313 := Aside0.mk (blk_below (g := gb313) (o := .cells #[.slice Ao44 t306.length co44, .slice Ao46 t309.length co46] 26 (0, 0)) (kU BK313.out) hb); replace BK320 := Aside0.mk (blk_below (g := gb320) (o := .cells #[.slice Ao52 t352.length co52, .slice Ao57 t353.length co57] 26 (0, 0)) (kU BK320.out) hb); replace BK327 := Aside0.mk (blk_below (g := gb327) (o := .cells #[.slice Ao62 t355.length co62, .slice Ao68 t356.length co68] 26 (0, 0)) (kU BK327.out) hb); replace BK335 := Aside0.mk (blk_below (g := gb335) (o := .cells #[.slice Ao72 t328.length co72, .slice Ao79 t331.length co79] 26 (0, 0)) (kU BK335.out) hb); replace HB := Aside0.mk (below_step (by repeat (first | (with_reducible first | exact HB.out | apply below_alloc | apply pw_below_drewN | apply below_drew1 | refine below_set ?_ GE290.out | refine below_set ?_ GE291.out | refine below_set ?_ GE313.out | refine below_set ?_ GE320.out | refine below_set ?_ GE327.out | refine below_set ?_ GE335.out) | exact HB.out)) hb); (try clear hb); (try clear hb2); (try clear hk); (try clear hi)))
             replace HO_314000 := Aside0.mk (Kd.R_drew HO_314000.out)
             replace HO_314001 := Aside0.mk (Kd.R_drew HO_314001.out)
             replace HO_321000 := Aside0.mk (Kd.R_drew HO_321000.out)
             replace HO_321001 := Aside0.mk (Kd.R_drew HO_321001.out)
             replace HO_328000 := Aside0.mk (Kd.R_drew HO_328000.out)
             replace HO_328001 := Aside0.mk (Kd.R_drew HO_328001.out)
             replace HO_336000 := Aside0.mk (Kd.R_drew HO_336000.out)
             replace HO_336001 := Aside0.mk (Kd.R_drew HO_336001.out)
             replace BK290 := Aside0.mk (blk_drew BK290.out)
             replace BK291 := Aside0.mk (blk_drew BK291.out)
             replace BK313 := Aside0.mk (blk_drew BK313.out)
             replace BK320 := Aside0.mk (blk_drew BK320.out)
             replace BK327 := Aside0.mk (blk_drew BK327.out)
             replace BK335 := Aside0.mk (blk_drew BK335.out)
             replace HB := Aside0.mk (below_drew1 HB.out)
             refine start_ (n := 12) (S := fun w' => w'.cell? ⟨gb290, 0, none⟩ = some (.slice A1_0 l1_0.length c1_0) ∧ w'.cell? ⟨gb290, 1, none⟩ = some (.slice A1_1 l1_1.length c1_1) ∧ w'.cell? ⟨gb291, 0, none⟩ = some (.slice A2_0 l2_0.length c2_0) ∧ w'.cell? ⟨gb291, 1, none⟩ = some (.slice A2_1 l2_1.length c2_1)) (ds := []) #[false, false, false, false, false, false, false, false, false, false, false, false] (by kernel_rfl) rfl rfl ⟨(blk_cell BK290.out 0).trans rfl, (blk_cell BK290.out 1).trans rfl, (blk_cell BK291.out 0).trans rfl, (blk_cell BK291.out 1).trans rfl⟩ (fun hHeld => ?_); refine with_tabW laws_FnExactEachTwo.tab31 laws_FnExactEachTwo.bits31 (fun HT_ HW_ => ?_)
             generalize w159.drew = w160 at HO_314000 HO_314001 HO_321000 HO_321001 HO_328000 HO_328001 HO_336000 HO_336001 BK290 BK291 BK313 BK320 BK327 BK335 HB hHeld ⊢
             refine pure_ (i := 0) (N := some 99) (v := ?_) (a' := ?_) #[true, false, false, false, false, false, false, false, false, false, false, false] rfl rfl (any_of HT_.out (by kernel_rfl)) (fun _ _ _ h => h) (Or.inl ⟨by rfl, ?_⟩) ?_ ?_
             rotate_left
             ·
              intro w'
              go_simp
              with_reducible rfl
             rotate_left
             ·
              simp only [Act.put, List.setIfInBounds_toArray, List.set_cons_zero, List.set_cons_succ, i64_w, i32_w]
              rfl
             refine take_ (i := 1) (N := some 100) (v := ?_) (a' := ?_) #[true, true, false, false, false, false, false, false, false, false, false, false] rfl rfl (take_ofW HT_.out HW_.out (by kernel_rfl)) (fun _ _ _ h => h) (Or.inl ⟨by rfl, ?_⟩) hHeld ?_ ?_
             rotate_left
             ·
              rintro w' ⟨s0, s1, s2, s3⟩
              go_simp
              with_reducible rfl
             rotate_left
             ·
              simp only [Act.put, List.setIfInBounds_toArray, List.set_cons_zero, List.set_cons_succ, i64_w, i32_w]
              rfl
             refine take_ (i := 3) (N := some 102) (v := ?_) (a' := ?_) #[true, true, false, true, false, false, false, false, false, false, false, false] rfl rfl (take_ofW HT_.out HW_.out (by kernel_rfl)) (fun _ _ _ h => h) (Or.inl ⟨by rfl, ?_⟩) hHeld ?_ ?_
             rotate_left
             ·
              rintro w' ⟨s0, s1, s2, s3⟩
              go_simp
              with_reducible rfl
             rotate_left
             ·
              simp only [Act.put, List.setIfInBounds_toArray, List.set_cons_zero, List.set_cons_succ, i64_w, i32_w]
              rfl
             rename_i h1_53 h1_76 h1_77 h1_79 h1_93 h1_110 h1_164 h1_167 h1_170 h1_173 h1_176 h1_179 h1_182 h1_209 h1_210 h1_211 h1_212 h1_213 h1_214 h1_215 h1_216 h1_217 h1_218 h1_219 h1_220 h1_221 h1_222 h1_223 h1_224 h1_225 h1_226 h1_227 h1_228 h1_229 h1_230 h1_231 h1_232 h1_233 h1_234 h1_235 h1_236 h1_237 h1_238 h1_239 h1_240 h1_241 h1_242 h1_243 h1_244 h1_245 h1_246 h1_247 h1_248 h1_249 h1_250 h1_251 h1_252 h1_253 h1_254 h1_255 h1_256 h1_257 h1_258 h1_259 h1_260 h1_261 h1_262 h1_263 h1_264 h1_265 h1_266 h1_267 h1_268 h1_269 h1_270 h1_271 h1_272 h1_273 h1_274 h1_275 h1_277 h1_278 h1_279 h1_280 h1_281 h1_282 h1_283 h1_284 h1_285 h1_286 h1_287 h1_288 h1_289 h1_290 h1_291 h1_292 h1_293 h1_294 h1_295 h1_296 h1_297 h1_298 h1_299 h1_300 h1_301 h1_302 h1_303 h1_304 h1_305 h1_306 h1_307 h1_308 h1_309 h1_310 h1_311 h1_312 h1_313 h1_333 h1_339 h1_341 h1_343 h1_349 h1_351 h1_372 h1_373 h1_374 h1_375 h1_376 h1_377 h1_378 h1_379 h1_380 h1_381 h1_382 h1_383 h1_384 h1_385 h1_390 h1_542 h1_543
             revert k a0 A1_0 c1_0 l1_0 A1_1 c1_1 l1_1 A2_0 c2_0 l2_0 A2_1 c2_1 l2_1 r w HT hu24 hu26 HR1_0 HC1_0 HR1_1 HC1_1 HR2_0 HC2_0 HR2_1 HC2_1 t292 A4 c5b0 t293 A11 c12b0 t294 t297 A20 t300 t303 A21 t306 t309 t312 A22 t314 t317 A23 t321 t324 A24 t328 t331 t334 A25 h1_53 gb290 w27 GW290 GE290 gb291 w28 GW291 GE291 NB290_291 NB291_290 hnb29 hnc29 hcz30_0 hcz30_1 hfz30_0 hfz30_1 w31 hcz32_0 hcz32_1 hfz32_0 hfz32_1 w33 h1_76 h1_77 w34 h1_79 v295 v298 v301 v304 gb313 w43 hS_ GW313 GE313 NB290_313 NB313_290 NB291_313 NB313_291 h1_93 Ao44 co44 Ao46 co46 hs45 hfs45 hns45_0 hns45_1 hms45_0 hms45_1 hs47 hfs47 hns47_0 hns47_1 hms47_0 hms47_1 h1_110 hnb48 hnc48 w50 gb320 w51 GW320 GE320 NB290_320 NB320_290 NB291_320 NB320_291 NB313_320 NB320_313 Ao52 co52 hnb53 hnc53 hnb54 hnc54 hnb55 hnc55 Ao57 co57 hnb58 hnc58 w60 gb327 w61 GW327 GE327 NB290_327 NB327_290 NB291_327 NB327_291 NB313_327 NB327_313 NB320_327 NB327_320 Ao62 co62 hnb63 hnc63 hnb64 hnc64 hnb65 hnc65 hnb66 hnc66 Ao68 co68 w70 gb335 w71 h1_164 GW335 GE335 h1_167 NB290_335 NB335_290 h1_170 NB291_335 NB335_291 h1_173 NB313_335 NB335_313 h1_176 NB320_335 NB335_320 h1_179 NB327_335 NB335_327 h1_182 Ao72 co72 hnb73 hnc73 hnb74 hnc74 hnb75 hnc75 hnb76 hnc76 hnb77 hnc77 Ao79 co79 HO296 HO299 HO302 HO305 HO308 HO311 HO316 HO319 HO323 HO326 HO330 HO333 h1_209 h1_210 h1_211 h1_212 h1_213 h1_214 h1_215 h1_216 h1_217 h1_218 h1_219 h1_220 h1_221 h1_222 h1_223 h1_224 h1_225 h1_226 h1_227 h1_228 h1_229 h1_230 h1_231 h1_232 h1_233 h1_234 h1_235 h1_236 h1_237 h1_238 h1_239 h1_240 h1_241 h1_242 h1_243 h1_244 h1_245 h1_246 h1_247 h1_248 h1_249 h1_250 h1_251 h1_252 h1_253 h1_254 h1_255 h1_256 h1_257 h1_258 h1_259 h1_260 h1_261 h1_262 h1_263 h1_264 h1_265 h1_266 h1_267 h1_268 h1_269 h1_270 h1_271 h1_272 h1_273 h1_274 h1_275 u86 h1_277 h1_278 h1_279 h1_280 h1_281 h1_282 h1_283 h1_284 h1_285 h1_286 h1_287 h1_288 h1_289 h1_290 h1_291 h1_292 h1_293 h1_294 h1_295 h1_296 h1_297 h1_298 h1_299 h1_300 h1_301 h1_302 h1_303 h1_304 h1_305 h1_306 h1_307 h1_308 h1_309 h1_310 h1_311 h1_312 h1_313 kj25 HJ25 t337 t340 A95 A96 t344 t347 A98 A99 t351 t352 t353 A101 t354 t355 t356 A102 w104 h1_333 w105 Ao106 co106 Ao107 co107 h1_339 w108 h1_341 w109 h1_343 w110 Ao111 co111 Ao112 co112 h1_349 w113 h1_351 hnb114 hnc114 hnb115 hnc115 hnb116 hnc116 hnb117 hnc117 hnb118 hnc118 w120 hnb121 hnc121 hnb122 hnc122 hnb123 hnc123 hnb124 hnc124 w126 h1_372 h1_373 h1_374 h1_375 h1_376 h1_377 h1_378 h1_379 h1_380 h1_381 h1_382 h1_383 h1_384 h1_385 HO339 HO342 HO346 HO349 h1_390 wc u19 u20 u21 u22 u23 u24 u25 u26 u27 u28 u29 u30 u31 u32 u33 u34 u35 u36 u37 u38 u39 u40 u41 u42 u43 u44 u45 u46 u47 u48 u49 u50 u51 u52 u53 u54 u55 u56 u57 u58 u59 u60 u61 u62 u63 u64 u65 u66 u67 u68 u69 u70 u71 u72 u73 u74 u75 u76 u77 u78 u79 u80 u81 u82 u83 u84 u85 u87 u88 u89 u90 u91 u92 u93 u94 u95 u96 u97 u98 u99 u100 u101 u102 u103 u104 u105 u106 u107 u108 u109 u110 u111 u112 u113 u114 u115 u116 u117 u118 u119 u120 u121 u122 u123 hl321000_102 hl321001_102 hl328000_102 hl328001_102 kj102 HJ102 t358 t359 t360 A143 t361 A144 c145b0 c146b0 c146b1 t362 t365 A147 t368 t371 A148 t374 t377 t380 A149 HC150 hnb151 hnc151 hnb152 hnc152 hnb153 hnc153 hnb154 hnc154 hnb155 hnc155 hcz156_0 hcz156_1 hfz156_0 hfz156_1 w157 hcz158_0 hcz158_1 hfz158_0 hfz158_1 w159 h1_542 h1_543 HT_ HW_ w160 HO_314000 HO_314001 HO_321000 HO_321001 HO_328000 HO_328001 HO_336000 HO_336001 BK290 BK291 BK313 BK320 BK327 BK335 HB hHeld
             exact hRest_ trivial
            ·
             rw [if_neg c146] at H
             have c146b0 : (t361 == t358) = false := beq_eq_false_iff_ne.mpr c146
             have c146b1 : (t361 != t358) = true := bne_iff_ne.mpr c146
             obtain rfl := Option.some.inj H
             exact absurd HT.out (by decide)
       ·
        replace c100 := Bool.eq_false_iff.mpr c100
        subst c100
        have H1 : (some false) = some r := by rw [if_neg (show ¬ (false = true) by decide)] at H; exact H
        clear H
        have H := H1
        clear H1
        obtain rfl := Option.some.inj H
        exact absurd HT.out (by decide)
      ·
       replace c97 := Bool.eq_false_iff.mpr c97
       subst c97
       have H1 : (some false) = some r := by rw [if_neg (show ¬ (false = true) by decide)] at H; exact H
       clear H
       have H := H1
       clear H1
       obtain rfl := Option.some.inj H
       exact absurd HT.out (by decide)⟩
end Go.Proofs.Ytjkbndfaemjjiaa.PFnExactEachTwo
