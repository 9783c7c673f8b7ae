/- The walk of what a law reaches, for the law's row: written by a program of this session; it has no condition of its own. -/
import Derived.Test.YtcnbajdnlkcjjaaPFnExactRotatex0
import Derived.Test.YtcnbajdnlkcjjaaQ
import Derived.Test.YtcnbajdnlkcjjaaPFnExactRotatex1
import Derived.Test.YtcnbajdnlkcjjaaPFnExactRotatex4
import Derived.Test.YtcnbajdnlkcjjaaPFnExactRotatex7
namespace Go.Proofs.Ytcnbajdnlkcjjaa.PFnExactRotate
open Go.RowKit Go.Proofs.YtcnbajdnlkcjjaaW.PrintWords Go.Proofs.YtcnbajdnlkcjjaaW.PrintLast Go.Proofs.YtcnbajdnlkcjjaaW.PrintMore Go.Proofs.YtcnbajdnlkcjjaaQ
attribute [local go_sem] max2_int min2_int max_two min_two max_three min_three max_four min_four   -- for this text's walks alone
set_option linter.unusedVariables false
set_option linter.unusedSimpArgs false

/-! ### laws_FnExactRotate: function 7 -/
mutual
def laws_FnExactRotate.j0 : Nat → Int → Int → Bool → List Int → List Int → List Int → List Int → List Int → List Int → List Int → List Int → List Int → List Int → List Int → List Int → Option (Bool)
 | 0, _, _, _, _, _, _, _, _, _, _, _, _, _, _, _ => none
 | k + 1, x7, x11, x53, x309000, x309001, x310000, x310001, x332000, x332001, x339000, x339001, x346000, x346001, x354000, x354001 => if x53 = true then (some false) else ((laws_toArray.f k x309000 x309001).bind fun bt355 => ((laws_eqArray.f k x339000 x339001 bt355.1 bt355.2).bind fun t361 => (if t361 = true then ((laws_toArray.f k x310000 x310001).bind fun bt362 => ((laws_eqArray.f k x346000 x346001 bt362.1 bt362.2).bind fun t368 => (if t368 = true then ((laws_markArray.f k x339000 x339001 1).bind fun bt369 => ((laws_markArray.f k x346000 x346001 bt369.1).bind fun bt372 => (if bt372.1 < 0 then (laws_FnExactRotate.j1 k x7 true x309000 x309001 x310000 x310001 x332000 x332001 x354000 x354001) else ((laws_eqArray.f k x354000 x354001 x332000 x332001).bind fun t375 => (if t375 = true then (laws_FnExactRotate.j1 k x7 (x11 != x7) x309000 x309001 x310000 x310001 x332000 x332001 x354000 x354001) else (laws_FnExactRotate.j1 k x7 true x309000 x309001 x310000 x310001 x332000 x332001 x354000 x354001)))))) else (some false)))) else (some false))))
def laws_FnExactRotate.j1 : Nat → Int → Bool → List Int → List Int → List Int → List Int → List Int → List Int → List Int → List Int → Option (Bool)
 | 0, _, _, _, _, _, _, _, _, _, _ => none
 | k + 1, x7, x82, x309000, x309001, x310000, x310001, x332000, x332001, x354000, x354001 => if x82 = true then (some false) else ((laws_markArray.f k x354000 x354001 1).bind fun bt376 => ((laws_heldArray.f k bt376.2.1 bt376.2.2 1).bind fun t379 => (if t379 < 0 then (some false) else (if t379 = bt376.1 then ((laws_toArray.f k x309000 x309001).bind fun bt380 => ((laws_toArray.f k x310000 x310001).bind fun bt386 => ((impl_Rotate.f k bt380.1 bt380.2 bt386.1 bt386.2).bind fun bt392 => ((laws_eqArray.f k bt392.1 bt392.2.1 x332000 x332001).bind fun t400 => (if t400 = true then (laws_FnExactRotate.j2 k bt376.1 (bt392.2.2 != x7) bt376.2.1 bt376.2.2) else (laws_FnExactRotate.j2 k bt376.1 true bt376.2.1 bt376.2.2)))))) else (some false)))))
def laws_FnExactRotate.j2 : Nat → Int → Bool → List Int → List Int → Option (Bool)
 | 0, _, _, _, _ => none
 | k + 1, x13, x110, x354000, x354001 => if x110 = true then (some false) else ((laws_heldArray.f k x354000 x354001 1).bind fun t401 => (if t401 < 0 then (some false) else (if t401 = x13 then (some true) else (some false))))
end
def laws_FnExactRotate.f (k : Nat) (l0_0 : List Int) (l0_1 : List Int) (l1_0 : List Int) (l1_1 : List Int) : Option (Bool) := (laws_szArray.f l0_0 l0_1 1048576).bind fun t310 => (if t310 < 0 then (some true) else ((laws_szArray.f l1_0 l1_1 t310).bind fun t311 => (if t311 < 0 then (some true) else ((laws_toArray.f k l0_0 l0_1).bind fun bt312 => ((laws_toArray.f k l1_0 l1_1).bind fun bt318 => ((spec_Rotate.f k bt312.1 bt312.2 bt318.1 bt318.2).bind fun bt324 => ((laws_toArray.f k l0_0 l0_1).bind fun bt332 => ((laws_toArray.f k l1_0 l1_1).bind fun bt339 => ((impl_Rotate.f k bt332.1 bt332.2 bt339.1 bt339.2).bind fun bt346 => ((laws_eqArray.f k bt346.1 bt346.2.1 bt324.1 bt324.2.1).bind fun t354 => (if t354 = true then (laws_FnExactRotate.j0 k bt324.2.2 bt346.2.2 (bt346.2.2 != bt324.2.2) l0_0 l0_1 l1_0 l1_1 bt324.1 bt324.2.1 bt332.1 bt332.2 bt339.1 bt339.2 bt346.1 bt346.2.1) else (laws_FnExactRotate.j0 k bt324.2.2 bt346.2.2 true l0_0 l0_1 l1_0 l1_1 bt324.1 bt324.2.1 bt332.1 bt332.2 bt339.1 bt339.2 bt346.1 bt346.2.1))))))))))))
theorem laws_FnExactRotate.mono_l : ∀ k, (∀ y0 y1 y2 y3 y4 y5 y6 y7 y8 y9 y10 y11 y12 y13 y14, LeO (laws_FnExactRotate.j0 k y0 y1 y2 y3 y4 y5 y6 y7 y8 y9 y10 y11 y12 y13 y14) (laws_FnExactRotate.j0 (k + 1) y0 y1 y2 y3 y4 y5 y6 y7 y8 y9 y10 y11 y12 y13 y14)) ∧ (∀ y0 y1 y2 y3 y4 y5 y6 y7 y8 y9, LeO (laws_FnExactRotate.j1 k y0 y1 y2 y3 y4 y5 y6 y7 y8 y9) (laws_FnExactRotate.j1 (k + 1) y0 y1 y2 y3 y4 y5 y6 y7 y8 y9)) ∧ (∀ y0 y1 y2 y3, LeO (laws_FnExactRotate.j2 k y0 y1 y2 y3) (laws_FnExactRotate.j2 (k + 1) y0 y1 y2 y3))
 | 0 => ⟨fun _ _ _ _ _ _ _ _ _ _ _ _ _ _ _ r h => by simp [laws_FnExactRotate.j0] at h, fun _ _ _ _ _ _ _ _ _ _ r h => by simp [laws_FnExactRotate.j1] at h, fun _ _ _ _ r h => by simp [laws_FnExactRotate.j2] at h⟩
 | k + 1 => by
  obtain ⟨ih0, ih1, ih2⟩ := laws_FnExactRotate.mono_l k
  refine ⟨?_, ?_, ?_⟩
  ·
   intro y0 y1 y2 y3 y4 y5 y6 y7 y8 y9 y10 y11 y12 y13 y14
   unfold laws_FnExactRotate.j0
   repeat' first
   | (with_reducible exact ih0 _ _ _ _ _ _ _ _ _ _ _ _ _ _ _)
   | (with_reducible exact ih1 _ _ _ _ _ _ _ _ _ _)
   | (with_reducible exact ih2 _ _ _ _)
   | (with_reducible exact impl_Rotate.mono _ _ _ _ _)
   | (with_reducible exact laws_eqArray.mono _ _ _ _ _)
   | (with_reducible exact laws_heldArray.mono _ _ _ _)
   | (with_reducible exact laws_markArray.mono _ _ _ _)
   | (with_reducible exact laws_toArray.mono _ _ _)
   | (with_reducible exact spec_Rotate.mono _ _ _ _ _)
   | (with_reducible exact LeO.refl _)
   | (with_reducible exact LeO.none _)
   | (with_reducible refine LeO.ite ?_ ?_)
   | (with_reducible refine LeO.bind ?_ (fun _ => ?_))
   | exact ih0 _ _ _ _ _ _ _ _ _ _ _ _ _ _ _
   | exact ih1 _ _ _ _ _ _ _ _ _ _
   | exact ih2 _ _ _ _
   | exact impl_Rotate.mono _ _ _ _ _
   | exact laws_eqArray.mono _ _ _ _ _
   | exact laws_heldArray.mono _ _ _ _
   | exact laws_markArray.mono _ _ _ _
   | exact laws_toArray.mono _ _ _
   | exact spec_Rotate.mono _ _ _ _ _
   | exact LeO.none _
   | refine LeO.ite ?_ ?_
   | refine LeO.bind ?_ (fun _ => ?_)
  ·
   intro y0 y1 y2 y3 y4 y5 y6 y7 y8 y9
   unfold laws_FnExactRotate.j1
   repeat' first
   | (with_reducible exact ih0 _ _ _ _ _ _ _ _ _ _ _ _ _ _ _)
   | (with_reducible exact ih1 _ _ _ _ _ _ _ _ _ _)
   | (with_reducible exact ih2 _ _ _ _)
   | (with_reducible exact impl_Rotate.mono _ _ _ _ _)
   | (with_reducible exact laws_eqArray.mono _ _ _ _ _)
   | (with_reducible exact laws_heldArray.mono _ _ _ _)
   | (with_reducible exact laws_markArray.mono _ _ _ _)
   | (with_reducible exact laws_toArray.mono _ _ _)
   | (with_reducible exact spec_Rotate.mono _ _ _ _ _)
   | (with_reducible exact LeO.refl _)
   | (with_reducible exact LeO.none _)
   | (with_reducible refine LeO.ite ?_ ?_)
   | (with_reducible refine LeO.bind ?_ (fun _ => ?_))
   | exact ih0 _ _ _ _ _ _ _ _ _ _ _ _ _ _ _
   | exact ih1 _ _ _ _ _ _ _ _ _ _
   | exact ih2 _ _ _ _
   | exact impl_Rotate.mono _ _ _ _ _
   | exact laws_eqArray.mono _ _ _ _ _
   | exact laws_heldArray.mono _ _ _ _
   | exact laws_markArray.mono _ _ _ _
   | exact laws_toArray.mono _ _ _
   | exact spec_Rotate.mono _ _ _ _ _
   | exact LeO.none _
   | refine LeO.ite ?_ ?_
   | refine LeO.bind ?_ (fun _ => ?_)
  ·
   intro y0 y1 y2 y3
   unfold laws_FnExactRotate.j2
   repeat' first
   | (with_reducible exact ih0 _ _ _ _ _ _ _ _ _ _ _ _ _ _ _)
   | (with_reducible exact ih1 _ _ _ _ _ _ _ _ _ _)
   | (with_reducible exact ih2 _ _ _ _)
   | (with_reducible exact impl_Rotate.mono _ _ _ _ _)
   | (with_reducible exact laws_eqArray.mono _ _ _ _ _)
   | (with_reducible exact laws_heldArray.mono _ _ _ _)
   | (with_reducible exact laws_markArray.mono _ _ _ _)
   | (with_reducible exact laws_toArray.mono _ _ _)
   | (with_reducible exact spec_Rotate.mono _ _ _ _ _)
   | (with_reducible exact LeO.refl _)
   | (with_reducible exact LeO.none _)
   | (with_reducible refine LeO.ite ?_ ?_)
   | (with_reducible refine LeO.bind ?_ (fun _ => ?_))
   | exact ih0 _ _ _ _ _ _ _ _ _ _ _ _ _ _ _
   | exact ih1 _ _ _ _ _ _ _ _ _ _
   | exact ih2 _ _ _ _
   | exact impl_Rotate.mono _ _ _ _ _
   | exact laws_eqArray.mono _ _ _ _ _
   | exact laws_heldArray.mono _ _ _ _
   | exact laws_markArray.mono _ _ _ _
   | exact laws_toArray.mono _ _ _
   | exact spec_Rotate.mono _ _ _ _ _
   | exact LeO.none _
   | refine LeO.ite ?_ ?_
   | refine LeO.bind ?_ (fun _ => ?_)
theorem laws_FnExactRotate.mono : ∀ a0 a1 a2 a3 k, LeO (laws_FnExactRotate.f k a0 a1 a2 a3) (laws_FnExactRotate.f (k + 1) a0 a1 a2 a3) := by
 intro a0 a1 a2 a3 k
 obtain ⟨ih0, ih1, ih2⟩ := laws_FnExactRotate.mono_l k
 unfold laws_FnExactRotate.f
 repeat' first
   | (with_reducible exact ih0 _ _ _ _ _ _ _ _ _ _ _ _ _ _ _)
   | (with_reducible exact ih1 _ _ _ _ _ _ _ _ _ _)
   | (with_reducible exact ih2 _ _ _ _)
   | (with_reducible exact impl_Rotate.mono _ _ _ _ _)
   | (with_reducible exact laws_eqArray.mono _ _ _ _ _)
   | (with_reducible exact laws_heldArray.mono _ _ _ _)
   | (with_reducible exact laws_markArray.mono _ _ _ _)
   | (with_reducible exact laws_toArray.mono _ _ _)
   | (with_reducible exact spec_Rotate.mono _ _ _ _ _)
   | (with_reducible exact LeO.refl _)
   | (with_reducible exact LeO.none _)
   | (with_reducible refine LeO.ite ?_ ?_)
   | (with_reducible refine LeO.bind ?_ (fun _ => ?_))
   | exact ih0 _ _ _ _ _ _ _ _ _ _ _ _ _ _ _
   | exact ih1 _ _ _ _ _ _ _ _ _ _
   | exact ih2 _ _ _ _
   | exact impl_Rotate.mono _ _ _ _ _
   | exact laws_eqArray.mono _ _ _ _ _
   | exact laws_heldArray.mono _ _ _ _
   | exact laws_markArray.mono _ _ _ _
   | exact laws_toArray.mono _ _ _
   | exact spec_Rotate.mono _ _ _ _ _
   | exact LeO.none _
   | refine LeO.ite ?_ ?_
   | refine LeO.bind ?_ (fun _ => ?_)
def laws_FnExactRotate.T8 : Bool × List (List Nat × List Nat) := (true, [([], []), ([0], [0]), ([], []), ([2, 1], [2]), ([1, 3, 3], [1, 3]), ([4], [4]), ([5], [5]), ([5], [5]), ([], []), ([8, 6, 4, 0, 1, 2, 3, 4, 5, 6, 8], [6, 8]), ([7, 9, 0, 1, 2, 3, 4, 5, 6, 7, 8, 9], [7])])
def laws_FnExactRotate.B8 : List Nat := [0, 1, 0, 7, 15, 31, 63, 63, 0, 383, 1023]
theorem laws_FnExactRotate.tab8 : rtab .any (opsOf Try.f7 8) = laws_FnExactRotate.T8 := by kernel_rfl
theorem laws_FnExactRotate.bits8 : waitsOk laws_FnExactRotate.T8.2 laws_FnExactRotate.B8 = true := by kernel_rfl
def laws_FnExactRotate.T31 : Bool × List (List Nat × List Nat) := (true, [([], []), ([0], [0]), ([], []), ([2, 1], [2]), ([1, 3, 3], [1, 3]), ([4], [4]), ([5], [5]), ([5], [5]), ([], []), ([8, 6, 4, 0, 1, 2, 3, 4, 5, 6, 8], [6, 8]), ([7, 9, 0, 1, 2, 3, 4, 5, 6, 7, 8, 9], [7])])
def laws_FnExactRotate.B31 : List Nat := [0, 1, 0, 7, 15, 31, 63, 63, 0, 383, 1023]
theorem laws_FnExactRotate.tab31 : rtab .any (opsOf Try.f7 31) = laws_FnExactRotate.T31 := by kernel_rfl
theorem laws_FnExactRotate.bits31 : waitsOk laws_FnExactRotate.T31.2 laws_FnExactRotate.B31 = true := by kernel_rfl
set_option maxHeartbeats 8000000 in
set_option maxRecDepth 100000 in
def laws_FnExactRotate.part1 : {P : Prop // (True → P) → ∀ (k : Nat) (A0_0 : Option Addr) (c0_0 : Nat) (l0_0 : List Int) (A0_1 : Option Addr) (c0_1 : Nat) (l0_1 : List Int) (A1_0 : Option Addr) (c1_0 : Nat) (l1_0 : List Int) (A1_1 : Option Addr) (c1_1 : Nat) (l1_1 : List Int) (r : Bool) (w : World) (hr0_0 : Kd.C (Kd.int .i64) w A0_0 l0_0.length l0_0) (hc0_0 : l0_0.length ≤ c0_0) (hr0_1 : Kd.C (Kd.int .i64) w A0_1 l0_1.length l0_1) (hc0_1 : l0_1.length ≤ c0_1) (hr1_0 : Kd.C (Kd.int .i64) w A1_0 l1_0.length l1_0) (hc1_0 : l1_0.length ≤ c1_0) (hr1_1 : Kd.C (Kd.int .i64) w A1_1 l1_1.length l1_1) (hc1_1 : l1_1.length ≤ c1_1) (h : laws_FnExactRotate.f k l0_0 l0_1 l1_0 l1_1 = some r) (hT : r = true), Calls Try.prog 7 #[.agg #[.slice A0_0 l0_0.length c0_0, .slice A0_1 l0_1.length c0_1], .agg #[.slice A1_0 l1_0.length c1_0, .slice A1_1 l1_1.length c1_1]] w fun e w' => e = .returned (.bool r) ∧ Below w.heap.size w w'} := ⟨_, fun hRest_ => by
 intro k A0_0 c0_0 l0_0 A0_1 c0_1 l0_1 A1_0 c1_0 l1_0 A1_1 c1_1 l1_1 r w hr0_0 hc0_0 hr0_1 hc0_1 hr1_0 hc1_0 hr1_1 hc1_1 h hT
 have HT := Aside0.mk hT
 clear hT
 have hu24 := Try.underlying24
 have hu26 := Try.underlying26
 have HR0_0 := Aside0.mk hr0_0
 have HC0_0 := Aside0.mk hc0_0
 clear hr0_0 hc0_0
 have HR0_1 := Aside0.mk hr0_1
 have HC0_1 := Aside0.mk hc0_1
 clear hr0_1 hc0_1
 have HR1_0 := Aside0.mk hr1_0
 have HC1_0 := Aside0.mk hc1_0
 clear hr1_0 hc1_0
 have HR1_1 := Aside0.mk hr1_1
 have HC1_1 := Aside0.mk hc1_1
 clear hr1_1 hc1_1
 have HB := Aside0.mk (Below.refl w.heap.size w)
 have H : ((laws_szArray.f l0_0 l0_1 1048576).bind fun t310 => (if t310 < 0 then (some true) else ((laws_szArray.f l1_0 l1_1 t310).bind fun t311 => (if t311 < 0 then (some true) else ((laws_toArray.f k l0_0 l0_1).bind fun bt312 => ((laws_toArray.f k l1_0 l1_1).bind fun bt318 => ((spec_Rotate.f k bt312.1 bt312.2 bt318.1 bt318.2).bind fun bt324 => ((laws_toArray.f k l0_0 l0_1).bind fun bt332 => ((laws_toArray.f k l1_0 l1_1).bind fun bt339 => ((impl_Rotate.f k bt332.1 bt332.2 bt339.1 bt339.2).bind fun bt346 => ((laws_eqArray.f k bt346.1 bt346.2.1 bt324.1 bt324.2.1).bind fun t354 => (if t354 = true then (laws_FnExactRotate.j0 k bt324.2.2 bt346.2.2 (bt346.2.2 != bt324.2.2) l0_0 l0_1 l1_0 l1_1 bt324.1 bt324.2.1 bt332.1 bt332.2 bt339.1 bt339.2 bt346.1 bt346.2.1) else (laws_FnExactRotate.j0 k bt324.2.2 bt346.2.2 true l0_0 l0_1 l1_0 l1_1 bt324.1 bt324.2.1 bt332.1 bt332.2 bt339.1 bt339.2 bt346.1 bt346.2.1))))))))))))) = some r := h
 clear h
 replace H := Option.bind_eq_some_iff.mp H
 obtain ⟨t310, A30, H⟩ := H
 replace H : (if t310 < 0 then (some true) else ((laws_szArray.f l1_0 l1_1 t310).bind fun t311 => (if t311 < 0 then (some true) else ((laws_toArray.f k l0_0 l0_1).bind fun bt312 => ((laws_toArray.f k l1_0 l1_1).bind fun bt318 => ((spec_Rotate.f k bt312.1 bt312.2 bt318.1 bt318.2).bind fun bt324 => ((laws_toArray.f k l0_0 l0_1).bind fun bt332 => ((laws_toArray.f k l1_0 l1_1).bind fun bt339 => ((impl_Rotate.f k bt332.1 bt332.2 bt339.1 bt339.2).bind fun bt346 => ((laws_eqArray.f k bt346.1 bt346.2.1 bt324.1 bt324.2.1).bind fun t354 => (if t354 = true then (laws_FnExactRotate.j0 k bt324.2.2 bt346.2.2 (bt346.2.2 != bt324.2.2) l0_0 l0_1 l1_0 l1_1 bt324.1 bt324.2.1 bt332.1 bt332.2 bt339.1 bt339.2 bt346.1 bt346.2.1) else (laws_FnExactRotate.j0 k bt324.2.2 bt346.2.2 true l0_0 l0_1 l1_0 l1_1 bt324.1 bt324.2.1 bt332.1 bt332.2 bt339.1 bt339.2 bt346.1 bt346.2.1)))))))))))) = some r := H
 have A3 := Aside0.mk A30
 clear A30
 by_cases c4 : t310 < 0
 ·
  rw [if_pos c4] at H
  have c4b0 : decide (t310 < 0) = true := decide_eq_true c4
  clear c4
  obtain rfl := Option.some.inj H
  go_enter Try.func7, Try.ntmps7
  go_wp2_with (first | ((with_reducible refine gate_dst (N := 2) rfl ?_); refine box_event ?hg (N := 2) ?hd (cs := #[.slice A0_0 l0_0.length c0_0, .slice A0_1 l0_1.length c0_1]) (t := 24) ?hr ?_; (case hd => rfl); (case hg => rfl); (case hr => first | (go_simp; done) | (go_simp; rfl)); intro gb308 hg w5 hbox hb; have BK308 := Aside0.mk (hbox); have GW308 := Aside0.mk ((by rw [hg]; exact (below_size (bU HB.out)) : w.heap.size ≤ gb308)); have GE308 := Aside0.mk ((by rw [hg]; exact (below_size (bU HB.out)) : w.heap.size ≤ gb308)); replace HB := Aside0.mk (below_step (bU HB.out) hb); clear hb hbox hg) | ((with_reducible refine gate_dst (N := 3) rfl ?_); refine box_event ?hg (N := 3) ?hd (cs := #[.slice A1_0 l1_0.length c1_0, .slice A1_1 l1_1.length c1_1]) (t := 24) ?hr ?_; (case hd => rfl); (case hg => rfl); (case hr => first | (go_simp; done) | (go_simp; rfl)); intro gb309 hg w6 hbox hb; have BK309 := Aside0.mk (hbox); have GW309 := Aside0.mk ((by rw [hg]; exact (below_size (bS1 HB.out GE308.out)) : w.heap.size ≤ gb309)); have GE309 := Aside0.mk ((by rw [hg]; exact (below_size (bS1 HB.out GE308.out)) : w.heap.size ≤ gb309)); replace HB := Aside0.mk (below_step (bS1 HB.out GE308.out) hb); have NB308_309 := Aside0.mk ((by rw [hg]; exact Nat.ne_of_lt (blk_lt (g := gb308) (o := .cells #[.slice A0_0 l0_0.length c0_0, .slice A0_1 l0_1.length c0_1] 24 (0, 0)) (kU BK308.out)) : gb308 ≠ gb309)); have NB309_308 := Aside0.mk ((by rw [hg]; exact Nat.ne_of_gt (blk_lt (g := gb308) (o := .cells #[.slice A0_0 l0_0.length c0_0, .slice A0_1 l0_1.length c0_1] 24 (0, 0)) (kU BK308.out)) : gb309 ≠ gb308)); replace BK308 := Aside0.mk (blk_below (g := gb308) (o := .cells #[.slice A0_0 l0_0.length c0_0, .slice A0_1 l0_1.length c0_1] 24 (0, 0)) (kU BK308.out) hb); clear hb hbox hg; have hnb7 := NB308_309.out; have hnc7 := NB309_308.out; have hcz8_0 : w6.cell? ⟨gb308, 0, none⟩ = some (.slice A0_0 l0_0.length c0_0) := (blk_cell BK308.out 0).trans rfl; have hcz8_1 : w6.cell? ⟨gb308, 1, none⟩ = some (.slice A0_1 l0_1.length c0_1) := (blk_cell BK308.out 1).trans rfl; have hfz8_0 := blk_frozen BK308.out 0; have hfz8_1 := blk_frozen BK308.out 1) | ((with_reducible refine gate_callee (f := 15) rfl ?_); refine goesL_ (some 19) rfl rfl Try.func15 (by kernel_rfl) rfl #[.agg #[.slice A0_0 l0_0.length c0_0, .slice A0_1 l0_1.length c0_1], .int .i64 1048576] rfl (by (try simp only [List.map_toArray, List.map_cons, List.map_nil]); first | done | rfl | (simp only [List.length_drop, List.length_take]; rfl)) ?_; (with_reducible refine (laws_szArray.calls _ _ l0_0 _ _ l0_1 1048576 t310 _ ?side1 ?side2 ?side3 ?side4 A3.out).mono ?_); (case side1 => exact cU (Kd.C_below HR0_0.out HB.out)); (case side2 => exact HC0_0.out); (case side3 => exact cU (Kd.C_below HR0_1.out HB.out)); (case side4 => exact HC0_1.out); rintro e w9 ⟨rfl, hb⟩; refine ⟨_, rfl, ?_⟩; replace BK308 := Aside0.mk (blk_below (g := gb308) (o := .cells #[.slice A0_0 l0_0.length c0_0, .slice A0_1 l0_1.length c0_1] 24 (0, 0)) (kU BK308.out) hb); replace BK309 := Aside0.mk (blk_below (g := gb309) (o := .cells #[.slice A1_0 l1_0.length c1_0, .slice A1_1 l1_1.length c1_1] 24 (0, 0)) (kU BK309.out) hb); replace HB := Aside0.mk (below_step (bS2 HB.out GE308.out GE309.out) hb); (try clear hb); (try clear hb2); (try clear hk); (try clear hi)))
  go_ret
  exact ⟨by first | rfl | (simp [errW_none, errW_some] <;> rfl) | (simp [*, errW_none, errW_some] <;> rfl), by repeat (first | (with_reducible first | exact HB.out | apply below_alloc | apply pw_below_drewN | apply below_drew1 | refine below_set ?_ GE308.out | refine below_set ?_ GE309.out) | exact HB.out)⟩
 ·
  rw [if_neg c4] at H
  have c4b0 : decide (t310 < 0) = false := decide_eq_false c4
  clear c4
  replace H := Option.bind_eq_some_iff.mp H
  obtain ⟨t311, A100, H⟩ := H
  replace H : (if t311 < 0 then (some true) else ((laws_toArray.f k l0_0 l0_1).bind fun bt312 => ((laws_toArray.f k l1_0 l1_1).bind fun bt318 => ((spec_Rotate.f k bt312.1 bt312.2 bt318.1 bt318.2).bind fun bt324 => ((laws_toArray.f k l0_0 l0_1).bind fun bt332 => ((laws_toArray.f k l1_0 l1_1).bind fun bt339 => ((impl_Rotate.f k bt332.1 bt332.2 bt339.1 bt339.2).bind fun bt346 => ((laws_eqArray.f k bt346.1 bt346.2.1 bt324.1 bt324.2.1).bind fun t354 => (if t354 = true then (laws_FnExactRotate.j0 k bt324.2.2 bt346.2.2 (bt346.2.2 != bt324.2.2) l0_0 l0_1 l1_0 l1_1 bt324.1 bt324.2.1 bt332.1 bt332.2 bt339.1 bt339.2 bt346.1 bt346.2.1) else (laws_FnExactRotate.j0 k bt324.2.2 bt346.2.2 true l0_0 l0_1 l1_0 l1_1 bt324.1 bt324.2.1 bt332.1 bt332.2 bt339.1 bt339.2 bt346.1 bt346.2.1)))))))))) = some r := H
  have A10 := Aside0.mk A100
  clear A100
  by_cases c11 : t311 < 0
  ·
   rw [if_pos c11] at H
   have c11b0 : decide (t311 < 0) = true := decide_eq_true c11
   clear c11
   obtain rfl := Option.some.inj H
   go_enter Try.func7, Try.ntmps7
   go_wp2_with (first | ((with_reducible refine gate_dst (N := 2) rfl ?_); refine box_event ?hg (N := 2) ?hd (cs := #[.slice A0_0 l0_0.length c0_0, .slice A0_1 l0_1.length c0_1]) (t := 24) ?hr ?_; (case hd => rfl); (case hg => rfl); (case hr => first | (go_simp; done) | (go_simp; rfl)); intro gb308 hg w12 hbox hb; have BK308 := Aside0.mk (hbox); have GW308 := Aside0.mk ((by rw [hg]; exact (below_size (bU HB.out)) : w.heap.size ≤ gb308)); have GE308 := Aside0.mk ((by rw [hg]; exact (below_size (bU HB.out)) : w.heap.size ≤ gb308)); replace HB := Aside0.mk (below_step (bU HB.out) hb); clear hb hbox hg) | ((with_reducible refine gate_dst (N := 3) rfl ?_); refine box_event ?hg (N := 3) ?hd (cs := #[.slice A1_0 l1_0.length c1_0, .slice A1_1 l1_1.length c1_1]) (t := 24) ?hr ?_; (case hd => rfl); (case hg => rfl); (case hr => first | (go_simp; done) | (go_simp; rfl)); intro gb309 hg w13 hbox hb; have BK309 := Aside0.mk (hbox); have GW309 := Aside0.mk ((by rw [hg]; exact (below_size (bS1 HB.out GE308.out)) : w.heap.size ≤ gb309)); have GE309 := Aside0.mk ((by rw [hg]; exact (below_size (bS1 HB.out GE308.out)) : w.heap.size ≤ gb309)); replace HB := Aside0.mk (below_step (bS1 HB.out GE308.out) hb); have NB308_309 := Aside0.mk ((by rw [hg]; exact Nat.ne_of_lt (blk_lt (g := gb308) (o := .cells #[.slice A0_0 l0_0.length c0_0, .slice A0_1 l0_1.length c0_1] 24 (0, 0)) (kU BK308.out)) : gb308 ≠ gb309)); have NB309_308 := Aside0.mk ((by rw [hg]; exact Nat.ne_of_gt (blk_lt (g := gb308) (o := .cells #[.slice A0_0 l0_0.length c0_0, .slice A0_1 l0_1.length c0_1] 24 (0, 0)) (kU BK308.out)) : gb309 ≠ gb308)); replace BK308 := Aside0.mk (blk_below (g := gb308) (o := .cells #[.slice A0_0 l0_0.length c0_0, .slice A0_1 l0_1.length c0_1] 24 (0, 0)) (kU BK308.out) hb); clear hb hbox hg; have hnb14 := NB308_309.out; have hnc14 := NB309_308.out; have hcz15_0 : w13.cell? ⟨gb308, 0, none⟩ = some (.slice A0_0 l0_0.length c0_0) := (blk_cell BK308.out 0).trans rfl; have hcz15_1 : w13.cell? ⟨gb308, 1, none⟩ = some (.slice A0_1 l0_1.length c0_1) := (blk_cell BK308.out 1).trans rfl; have hfz15_0 := blk_frozen BK308.out 0; have hfz15_1 := blk_frozen BK308.out 1) | ((with_reducible refine gate_callee (f := 15) rfl ?_); refine goesL_ (some 19) rfl rfl Try.func15 (by kernel_rfl) rfl #[.agg #[.slice A0_0 l0_0.length c0_0, .slice A0_1 l0_1.length c0_1], .int .i64 1048576] rfl (by (try simp only [List.map_toArray, List.map_cons, List.map_nil]); first | done | rfl | (simp only [List.length_drop, List.length_take]; rfl)) ?_; (with_reducible refine (laws_szArray.calls _ _ l0_0 _ _ l0_1 1048576 t310 _ ?side1 ?side2 ?side3 ?side4 A3.out).mono ?_); (case side1 => exact cU (Kd.C_below HR0_0.out HB.out)); (case side2 => exact HC0_0.out); (case side3 => exact cU (Kd.C_below HR0_1.out HB.out)); (case side4 => exact HC0_1.out); rintro e w16 ⟨rfl, hb⟩; refine ⟨_, rfl, ?_⟩; replace BK308 := Aside0.mk (blk_below (g := gb308) (o := .cells #[.slice A0_0 l0_0.length c0_0, .slice A0_1 l0_1.length c0_1] 24 (0, 0)) (kU BK308.out) hb); replace BK309 := Aside0.mk (blk_below (g := gb309) (o := .cells #[.slice A1_0 l1_0.length c1_0, .slice A1_1 l1_1.length c1_1] 24 (0, 0)) (kU BK309.out) hb); replace HB := Aside0.mk (below_step (bS2 HB.out GE308.out GE309.out) hb); (try clear hb); (try clear hb2); (try clear hk); (try clear hi); have hcz17_0 : w16.cell? ⟨gb309, 0, none⟩ = some (.slice A1_0 l1_0.length c1_0) := (blk_cell BK309.out 0).trans rfl; have hcz17_1 : w16.cell? ⟨gb309, 1, none⟩ = some (.slice A1_1 l1_1.length c1_1) := (blk_cell BK309.out 1).trans rfl; have hfz17_0 := blk_frozen BK309.out 0; have hfz17_1 := blk_frozen BK309.out 1) | ((with_reducible refine gate_callee (f := 15) rfl ?_); refine goesL_ (some 24) rfl rfl Try.func15 (by kernel_rfl) rfl #[.agg #[.slice A1_0 l1_0.length c1_0, .slice A1_1 l1_1.length c1_1], .int .i64 t310] rfl (by (try simp only [List.map_toArray, List.map_cons, List.map_nil]); first | done | rfl | (simp only [List.length_drop, List.length_take]; rfl)) ?_; (with_reducible refine (laws_szArray.calls _ _ l1_0 _ _ l1_1 t310 t311 _ ?side1 ?side2 ?side3 ?side4 A10.out).mono ?_); (case side1 => exact cU (Kd.C_below HR1_0.out HB.out)); (case side2 => exact HC1_0.out); (case side3 => exact cU (Kd.C_below HR1_1.out HB.out)); (case side4 => exact HC1_1.out); rintro e w18 ⟨rfl, hb⟩; refine ⟨_, rfl, ?_⟩; replace BK308 := Aside0.mk (blk_below (g := gb308) (o := .cells #[.slice A0_0 l0_0.length c0_0, .slice A0_1 l0_1.length c0_1] 24 (0, 0)) (kU BK308.out) hb); replace BK309 := Aside0.mk (blk_below (g := gb309) (o := .cells #[.slice A1_0 l1_0.length c1_0, .slice A1_1 l1_1.length c1_1] 24 (0, 0)) (kU BK309.out) hb); replace HB := Aside0.mk (below_step (bS2 HB.out GE308.out GE309.out) hb); (try clear hb); (try clear hb2); (try clear hk); (try clear hi)))
   go_ret
   exact ⟨by first | rfl | (simp [errW_none, errW_some] <;> rfl) | (simp [*, errW_none, errW_some] <;> rfl), by repeat (first | (with_reducible first | exact HB.out | apply below_alloc | apply pw_below_drewN | apply below_drew1 | refine below_set ?_ GE308.out | refine below_set ?_ GE309.out) | exact HB.out)⟩
  ·
   rw [if_neg c11] at H
   have c11b0 : decide (t311 < 0) = false := decide_eq_false c11
   clear c11
   replace H := Option.bind_eq_some_iff.mp H
   obtain ⟨⟨t312, t315⟩, A190, H⟩ := H
   replace H : ((laws_toArray.f k l1_0 l1_1).bind fun bt318 => ((spec_Rotate.f k t312 t315 bt318.1 bt318.2).bind fun bt324 => ((laws_toArray.f k l0_0 l0_1).bind fun bt332 => ((laws_toArray.f k l1_0 l1_1).bind fun bt339 => ((impl_Rotate.f k bt332.1 bt332.2 bt339.1 bt339.2).bind fun bt346 => ((laws_eqArray.f k bt346.1 bt346.2.1 bt324.1 bt324.2.1).bind fun t354 => (if t354 = true then (laws_FnExactRotate.j0 k bt324.2.2 bt346.2.2 (bt346.2.2 != bt324.2.2) l0_0 l0_1 l1_0 l1_1 bt324.1 bt324.2.1 bt332.1 bt332.2 bt339.1 bt339.2 bt346.1 bt346.2.1) else (laws_FnExactRotate.j0 k bt324.2.2 bt346.2.2 true l0_0 l0_1 l1_0 l1_1 bt324.1 bt324.2.1 bt332.1 bt332.2 bt339.1 bt339.2 bt346.1 bt346.2.1)))))))) = some r := H
   have A19 := Aside0.mk A190
   clear A190
   replace H := Option.bind_eq_some_iff.mp H
   obtain ⟨⟨t318, t321⟩, A200, H⟩ := H
   replace H : ((spec_Rotate.f k t312 t315 t318 t321).bind fun bt324 => ((laws_toArray.f k l0_0 l0_1).bind fun bt332 => ((laws_toArray.f k l1_0 l1_1).bind fun bt339 => ((impl_Rotate.f k bt332.1 bt332.2 bt339.1 bt339.2).bind fun bt346 => ((laws_eqArray.f k bt346.1 bt346.2.1 bt324.1 bt324.2.1).bind fun t354 => (if t354 = true then (laws_FnExactRotate.j0 k bt324.2.2 bt346.2.2 (bt346.2.2 != bt324.2.2) l0_0 l0_1 l1_0 l1_1 bt324.1 bt324.2.1 bt332.1 bt332.2 bt339.1 bt339.2 bt346.1 bt346.2.1) else (laws_FnExactRotate.j0 k bt324.2.2 bt346.2.2 true l0_0 l0_1 l1_0 l1_1 bt324.1 bt324.2.1 bt332.1 bt332.2 bt339.1 bt339.2 bt346.1 bt346.2.1))))))) = some r := H
   have A20 := Aside0.mk A200
   clear A200
   replace H := Option.bind_eq_some_iff.mp H
   obtain ⟨⟨t324, t327, t330⟩, A210, H⟩ := H
   replace H : ((laws_toArray.f k l0_0 l0_1).bind fun bt332 => ((laws_toArray.f k l1_0 l1_1).bind fun bt339 => ((impl_Rotate.f k bt332.1 bt332.2 bt339.1 bt339.2).bind fun bt346 => ((laws_eqArray.f k bt346.1 bt346.2.1 t324 t327).bind fun t354 => (if t354 = true then (laws_FnExactRotate.j0 k t330 bt346.2.2 (bt346.2.2 != t330) l0_0 l0_1 l1_0 l1_1 t324 t327 bt332.1 bt332.2 bt339.1 bt339.2 bt346.1 bt346.2.1) else (laws_FnExactRotate.j0 k t330 bt346.2.2 true l0_0 l0_1 l1_0 l1_1 t324 t327 bt332.1 bt332.2 bt339.1 bt339.2 bt346.1 bt346.2.1)))))) = some r := H
   have A21 := Aside0.mk A210
   clear A210
   replace H := Option.bind_eq_some_iff.mp H
   obtain ⟨⟨t332, t335⟩, A220, H⟩ := H
   replace H : ((laws_toArray.f k l1_0 l1_1).bind fun bt339 => ((impl_Rotate.f k t332 t335 bt339.1 bt339.2).bind fun bt346 => ((laws_eqArray.f k bt346.1 bt346.2.1 t324 t327).bind fun t354 => (if t354 = true then (laws_FnExactRotate.j0 k t330 bt346.2.2 (bt346.2.2 != t330) l0_0 l0_1 l1_0 l1_1 t324 t327 t332 t335 bt339.1 bt339.2 bt346.1 bt346.2.1) else (laws_FnExactRotate.j0 k t330 bt346.2.2 true l0_0 l0_1 l1_0 l1_1 t324 t327 t332 t335 bt339.1 bt339.2 bt346.1 bt346.2.1))))) = some r := H
   have A22 := Aside0.mk A220
   clear A220
   replace H := Option.bind_eq_some_iff.mp H
   obtain ⟨⟨t339, t342⟩, A230, H⟩ := H
   replace H : ((impl_Rotate.f k t332 t335 t339 t342).bind fun bt346 => ((laws_eqArray.f k bt346.1 bt346.2.1 t324 t327).bind fun t354 => (if t354 = true then (laws_FnExactRotate.j0 k t330 bt346.2.2 (bt346.2.2 != t330) l0_0 l0_1 l1_0 l1_1 t324 t327 t332 t335 t339 t342 bt346.1 bt346.2.1) else (laws_FnExactRotate.j0 k t330 bt346.2.2 true l0_0 l0_1 l1_0 l1_1 t324 t327 t332 t335 t339 t342 bt346.1 bt346.2.1)))) = some r := H
   have A23 := Aside0.mk A230
   clear A230
   replace H := Option.bind_eq_some_iff.mp H
   obtain ⟨⟨t346, t349, t352⟩, A240, H⟩ := H
   replace H : ((laws_eqArray.f k t346 t349 t324 t327).bind fun t354 => (if t354 = true then (laws_FnExactRotate.j0 k t330 t352 (t352 != t330) l0_0 l0_1 l1_0 l1_1 t324 t327 t332 t335 t339 t342 t346 t349) else (laws_FnExactRotate.j0 k t330 t352 true l0_0 l0_1 l1_0 l1_1 t324 t327 t332 t335 t339 t342 t346 t349))) = some r := H
   have A24 := Aside0.mk A240
   clear A240
   have HC25 := Aside0.mk H
   clear H
   go_enter Try.func7, Try.ntmps7
   try go_wp2_with (first | ((with_reducible refine gate_dst (N := 2) rfl ?_); refine box_event ?hg (N := 2) ?hd (cs := #[.slice A0_0 l0_0.length c0_0, .slice A0_1 l0_1.length c0_1]) (t := 24) ?hr ?_; (case hd => rfl); (case hg => rfl); (case hr => first | (go_simp; done) | (go_simp; rfl)); intro gb308 hg w26 hbox hb; have BK308 := Aside0.mk (hbox); have GW308 := Aside0.mk ((by rw [hg]; exact (below_size (bU HB.out)) : w.heap.size ≤ gb308)); have GE308 := Aside0.mk ((by rw [hg]; exact (below_size (bU HB.out)) : w.heap.size ≤ gb308)); replace HB := Aside0.mk (below_step (bU HB.out) hb); clear hb hbox hg) | ((with_reducible refine gate_dst (N := 3) rfl ?_); refine box_event ?hg (N := 3) ?hd (cs := #[.slice A1_0 l1_0.length c1_0, .slice A1_1 l1_1.length c1_1]) (t := 24) ?hr ?_; (case hd => rfl); (case hg => rfl); (case hr => first | (go_simp; done) | (go_simp; rfl)); intro gb309 hg w27 hbox hb; have BK309 := Aside0.mk (hbox); have GW309 := Aside0.mk ((by rw [hg]; exact (below_size (bS1 HB.out GE308.out)) : w.heap.size ≤ gb309)); have GE309 := Aside0.mk ((by rw [hg]; exact (below_size (bS1 HB.out GE308.out)) : w.heap.size ≤ gb309)); replace HB := Aside0.mk (below_step (bS1 HB.out GE308.out) hb); have NB308_309 := Aside0.mk ((by rw [hg]; exact Nat.ne_of_lt (blk_lt (g := gb308) (o := .cells #[.slice A0_0 l0_0.length c0_0, .slice A0_1 l0_1.length c0_1] 24 (0, 0)) (kU BK308.out)) : gb308 ≠ gb309)); have NB309_308 := Aside0.mk ((by rw [hg]; exact Nat.ne_of_gt (blk_lt (g := gb308) (o := .cells #[.slice A0_0 l0_0.length c0_0, .slice A0_1 l0_1.length c0_1] 24 (0, 0)) (kU BK308.out)) : gb309 ≠ gb308)); replace BK308 := Aside0.mk (blk_below (g := gb308) (o := .cells #[.slice A0_0 l0_0.length c0_0, .slice A0_1 l0_1.length c0_1] 24 (0, 0)) (kU BK308.out) hb); clear hb hbox hg; have hnb28 := NB308_309.out; have hnc28 := NB309_308.out; have hcz29_0 : w27.cell? ⟨gb308, 0, none⟩ = some (.slice A0_0 l0_0.length c0_0) := (blk_cell BK308.out 0).trans rfl; have hcz29_1 : w27.cell? ⟨gb308, 1, none⟩ = some (.slice A0_1 l0_1.length c0_1) := (blk_cell BK308.out 1).trans rfl; have hfz29_0 := blk_frozen BK308.out 0; have hfz29_1 := blk_frozen BK308.out 1) | ((with_reducible refine gate_callee (f := 15) rfl ?_); refine goesL_ (some 19) rfl rfl Try.func15 (by kernel_rfl) rfl #[.agg #[.slice A0_0 l0_0.length c0_0, .slice A0_1 l0_1.length c0_1], .int .i64 1048576] rfl (by (try simp only [List.map_toArray, List.map_cons, List.map_nil]); first | done | rfl | (simp only [List.length_drop, List.length_take]; rfl)) ?_; (with_reducible refine (laws_szArray.calls _ _ l0_0 _ _ l0_1 1048576 t310 _ ?side1 ?side2 ?side3 ?side4 A3.out).mono ?_); (case side1 => exact cU (Kd.C_below HR0_0.out HB.out)); (case side2 => exact HC0_0.out); (case side3 => exact cU (Kd.C_below HR0_1.out HB.out)); (case side4 => exact HC0_1.out); rintro e w30 ⟨rfl, hb⟩; refine ⟨_, rfl, ?_⟩; replace BK308 := Aside0.mk (blk_below (g := gb308) (o := .cells #[.slice A0_0 l0_0.length c0_0, .slice A0_1 l0_1.length c0_1] 24 (0, 0)) (kU BK308.out) hb); replace BK309 := Aside0.mk (blk_below (g := gb309) (o := .cells #[.slice A1_0 l1_0.length c1_0, .slice A1_1 l1_1.length c1_1] 24 (0, 0)) (kU BK309.out) hb); replace HB := Aside0.mk (below_step (bS2 HB.out GE308.out GE309.out) hb); (try clear hb); (try clear hb2); (try clear hk); (try clear hi); have hcz31_0 : w30.cell? ⟨gb309, 0, none⟩ = some (.slice A1_0 l1_0.length c1_0) := (blk_cell BK309.out 0).trans rfl; have hcz31_1 : w30.cell? ⟨gb309, 1, none⟩ = some (.slice A1_1 l1_1.length c1_1) := (blk_cell BK309.out 1).trans rfl; have hfz31_0 := blk_frozen BK309.out 0; have hfz31_1 := blk_frozen BK309.out 1) | ((with_reducible refine gate_callee (f := 15) rfl ?_); refine goesL_ (some 24) rfl rfl Try.func15 (by kernel_rfl) rfl #[.agg #[.slice A1_0 l1_0.length c1_0, .slice A1_1 l1_1.length c1_1], .int .i64 t310] rfl (by (try simp only [List.map_toArray, List.map_cons, List.map_nil]); first | done | rfl | (simp only [List.length_drop, List.length_take]; rfl)) ?_; (with_reducible refine (laws_szArray.calls _ _ l1_0 _ _ l1_1 t310 t311 _ ?side1 ?side2 ?side3 ?side4 A10.out).mono ?_); (case side1 => exact cU (Kd.C_below HR1_0.out HB.out)); (case side2 => exact HC1_0.out); (case side3 => exact cU (Kd.C_below HR1_1.out HB.out)); (case side4 => exact HC1_1.out); rintro e w32 ⟨rfl, hb⟩; refine ⟨_, rfl, ?_⟩; replace BK308 := Aside0.mk (blk_below (g := gb308) (o := .cells #[.slice A0_0 l0_0.length c0_0, .slice A0_1 l0_1.length c0_1] 24 (0, 0)) (kU BK308.out) hb); replace BK309 := Aside0.mk (blk_below (g := gb309) (o := .cells #[.slice A1_0 l1_0.length c1_0, .slice A1_1 l1_1.length c1_1] 24 (0, 0)) (kU BK309.out) hb); replace HB := Aside0.mk (below_step (bS2 HB.out GE308.out GE309.out) hb); (try clear hb); (try clear hb2); (try clear hk); (try clear hi)))
   replace BK308 := Aside0.mk (blk_drew BK308.out)
   replace BK309 := Aside0.mk (blk_drew BK309.out)
   replace HB := Aside0.mk (below_drew1 HB.out)
   refine start_ (n := 11) (S := fun w' => w'.cell? ⟨gb308, 0, none⟩ = some (.slice A0_0 l0_0.length c0_0) ∧ w'.cell? ⟨gb308, 1, none⟩ = some (.slice A0_1 l0_1.length c0_1) ∧ w'.cell? ⟨gb309, 0, none⟩ = some (.slice A1_0 l1_0.length c1_0) ∧ w'.cell? ⟨gb309, 1, none⟩ = some (.slice A1_1 l1_1.length c1_1)) (ds := []) #[false, false, false, false, false, false, false, false, false, false, false] (by kernel_rfl) rfl rfl ⟨(blk_cell BK308.out 0).trans rfl, (blk_cell BK308.out 1).trans rfl, (blk_cell BK309.out 0).trans rfl, (blk_cell BK309.out 1).trans rfl⟩ (fun hHeld => ?_); refine with_tabW laws_FnExactRotate.tab8 laws_FnExactRotate.bits8 (fun HT_ HW_ => ?_)
   generalize w32.drew = w33 at BK308 BK309 HB hHeld ⊢
   refine take_ (i := 0) (N := some 28) (v := ?_) (a' := ?_) #[true, false, false, false, false, false, false, false, false, false, false] rfl rfl (take_ofW HT_.out HW_.out (by kernel_rfl)) (fun _ _ _ h => h) (Or.inl ⟨by rfl, ?_⟩) hHeld ?_ ?_
   rotate_left
   ·
    rintro w' ⟨s0, s1, s2, s3⟩
    go_simp
    with_reducible rfl
   rotate_left
   ·
    simp only [Act.put, List.setIfInBounds_toArray, List.set_cons_zero, List.set_cons_succ, i64_w, i32_w]
    rfl
   refine take_ (i := 2) (N := some 30) (v := ?_) (a' := ?_) #[true, false, true, false, false, false, false, false, false, false, false] rfl rfl (take_ofW HT_.out HW_.out (by kernel_rfl)) (fun _ _ _ h => h) (Or.inl ⟨by rfl, ?_⟩) hHeld ?_ ?_
   rotate_left
   ·
    rintro w' ⟨s0, s1, s2, s3⟩
    go_simp
    with_reducible rfl
   rotate_left
   ·
    simp only [Act.put, List.setIfInBounds_toArray, List.set_cons_zero, List.set_cons_succ, i64_w, i32_w]
    rfl
   refine join_ (σ := Value × Value × Value × Value × Value × Value × Nat) 2 #[true, true, true, true, true, true, true, true, true, false, false] (fun s_ => [(29, .agg #[s_.1, s_.2.1]), (31, .agg #[s_.2.2.1, s_.2.2.2.1]), (32, .tuple #[.agg #[s_.2.2.2.2.1, s_.2.2.2.2.2.1], .int .i64 t330]), (6, .pointer (some ⟨s_.2.2.2.2.2.2, 0, none⟩)), (27, .tuple #[.agg #[s_.2.2.2.2.1, s_.2.2.2.2.2.1], .int .i64 t330]), (33, .agg #[s_.2.2.2.2.1, s_.2.2.2.2.2.1]), (34, .int .i64 t330)]) (fun s_ w' => (w'.cell? ⟨gb308, 0, none⟩ = some (.slice A0_0 l0_0.length c0_0) ∧ w'.cell? ⟨gb308, 1, none⟩ = some (.slice A0_1 l0_1.length c0_1) ∧ w'.cell? ⟨gb309, 0, none⟩ = some (.slice A1_0 l1_0.length c1_0) ∧ w'.cell? ⟨gb309, 1, none⟩ = some (.slice A1_1 l1_1.length c1_1)) ∧ (Kd.R (Kd.int .i64) 3 w' w.heap.size (fun k_ => some k_ ≠ (s_.2.1 : Value).ownBlock ∧ some k_ ≠ (s_.2.2.1 : Value).ownBlock ∧ some k_ ≠ (s_.2.2.2.1 : Value).ownBlock ∧ some k_ ≠ (s_.2.2.2.2.1 : Value).ownBlock ∧ some k_ ≠ (s_.2.2.2.2.2.1 : Value).ownBlock) s_.1 t312) ∧ (Kd.R (Kd.int .i64) 3 w' w.heap.size (fun k_ => some k_ ≠ (s_.1 : Value).ownBlock ∧ some k_ ≠ (s_.2.2.1 : Value).ownBlock ∧ some k_ ≠ (s_.2.2.2.1 : Value).ownBlock ∧ some k_ ≠ (s_.2.2.2.2.1 : Value).ownBlock ∧ some k_ ≠ (s_.2.2.2.2.2.1 : Value).ownBlock) s_.2.1 t315) ∧ (Kd.R (Kd.int .i64) 3 w' w.heap.size (fun k_ => some k_ ≠ (s_.1 : Value).ownBlock ∧ some k_ ≠ (s_.2.1 : Value).ownBlock ∧ some k_ ≠ (s_.2.2.2.1 : Value).ownBlock ∧ some k_ ≠ (s_.2.2.2.2.1 : Value).ownBlock ∧ some k_ ≠ (s_.2.2.2.2.2.1 : Value).ownBlock) s_.2.2.1 t318) ∧ (Kd.R (Kd.int .i64) 3 w' w.heap.size (fun k_ => some k_ ≠ (s_.1 : Value).ownBlock ∧ some k_ ≠ (s_.2.1 : Value).ownBlock ∧ some k_ ≠ (s_.2.2.1 : Value).ownBlock ∧ some k_ ≠ (s_.2.2.2.2.1 : Value).ownBlock ∧ some k_ ≠ (s_.2.2.2.2.2.1 : Value).ownBlock) s_.2.2.2.1 t321) ∧ (Kd.R (Kd.int .i64) 3 w' w.heap.size (fun k_ => some k_ ≠ (s_.1 : Value).ownBlock ∧ some k_ ≠ (s_.2.1 : Value).ownBlock ∧ some k_ ≠ (s_.2.2.1 : Value).ownBlock ∧ some k_ ≠ (s_.2.2.2.1 : Value).ownBlock ∧ some k_ ≠ (s_.2.2.2.2.2.1 : Value).ownBlock) s_.2.2.2.2.1 t324) ∧ (Kd.R (Kd.int .i64) 3 w' w.heap.size (fun k_ => some k_ ≠ (s_.1 : Value).ownBlock ∧ some k_ ≠ (s_.2.1 : Value).ownBlock ∧ some k_ ≠ (s_.2.2.1 : Value).ownBlock ∧ some k_ ≠ (s_.2.2.2.1 : Value).ownBlock ∧ some k_ ≠ (s_.2.2.2.2.1 : Value).ownBlock) s_.2.2.2.2.2.1 t327) ∧ (w'.heap[gb308]? = some (.cells #[.slice A0_0 l0_0.length c0_0, .slice A0_1 l0_1.length c0_1] 24 (0, 0))) ∧ (w'.heap[gb309]? = some (.cells #[.slice A1_0 l1_0.length c1_0, .slice A1_1 l1_1.length c1_1] 24 (0, 0))) ∧ (w'.heap[s_.2.2.2.2.2.2]? = some (.cells #[.slice none 0 0, .slice none 0 0] 26 (0, 0))) ∧ (w.heap.size ≤ s_.2.2.2.2.2.2) ∧ (w.heap.size ≤ s_.2.2.2.2.2.2) ∧ (gb308 ≠ s_.2.2.2.2.2.2) ∧ (s_.2.2.2.2.2.2 ≠ gb308) ∧ (gb309 ≠ s_.2.2.2.2.2.2) ∧ (s_.2.2.2.2.2.2 ≠ gb309) ∧ (Below w.heap.size w w')) ?_ ?_
   rotate_left
   ·
    intro hCont
    refine two_ (i := 1) (j := 8) (Ni := some 29) (Nj := some 6) #[true, true, true, false, false, false, false, false, false, false, false] #[true, false, true, false, false, false, false, false, true, false, false] rfl rfl rfl rfl (two_of HT_.out (by kernel_rfl)) (by decide) (by decide) (fun K hK => ?_) (fun K hK => ?_)
    ·
     skip
     refine goes_ Try.func17 (by kernel_rfl) rfl #[.agg #[.slice A0_0 l0_0.length c0_0, .slice A0_1 l0_1.length c0_1]] (by rfl) rfl rfl (by (try simp only [List.map_toArray, List.map_cons, List.map_nil]); first | done | rfl | (simp only [List.length_drop, List.length_take]; rfl)) ?_
     with_reducible refine (laws_toArray.calls k _ _ l0_0 _ _ l0_1 t312 t315 _ ?side1 ?side2 ?side3 ?side4 A19.out).mono ?_
     (case side1 => exact cU (Kd.C_below HR0_0.out HB.out))
     (case side2 => exact HC0_0.out)
     (case side3 => exact cU (Kd.C_below HR0_1.out HB.out))
     (case side4 => exact HC0_1.out)
     rintro e w34 ⟨v313, v316, rfl, ho0, ho1, hb⟩
     refine ⟨_, rfl, ?_⟩
     have HO314 := Aside0.mk (Kd.R_lower ho0 (below_size (bS2 HB.out GE308.out GE309.out)))
     have HO317 := Aside0.mk (Kd.R_lower ho1 (below_size (bS2 HB.out GE308.out GE309.out)))
     replace BK308 := Aside0.mk (blk_below (g := gb308) (o := .cells #[.slice A0_0 l0_0.length c0_0, .slice A0_1 l0_1.length c0_1] 24 (0, 0)) (kU BK308.out) hb)
     replace BK309 := Aside0.mk (blk_below (g := gb309) (o := .cells #[.slice A1_0 l1_0.length c1_0, .slice A1_1 l1_1.length c1_1] 24 (0, 0)) (kU BK309.out) hb)
     replace HB := Aside0.mk (below_step (bS2 HB.out GE308.out GE309.out) hb)
     (try clear hb)
     (try clear hb2)
     (try clear hk)
     (try clear hi)
     (try clear ho0)
     (try clear ho1)
     refine hK.out _ _ ⟨(blk_cell BK308.out 0).trans rfl, (blk_cell BK308.out 1).trans rfl, (blk_cell BK309.out 0).trans rfl, (blk_cell BK309.out 1).trans rfl⟩ (fun hHeld => ?_)
     clear hK K
     refine norm_ (a' := ?_) ?_ ?_
     rotate_left
     ·
      show Act.put _ (some 29) _ = _
      simp only [Act.put, List.setIfInBounds_toArray, List.set_cons_zero, List.set_cons_succ, i64_w, i32_w]
      rfl
     refine two_ (i := 3) (j := 8) (Ni := some 31) (Nj := some 6) #[true, true, true, true, false, false, false, false, false, false, false] #[true, true, true, false, false, false, false, false, true, false, false] rfl rfl rfl rfl (two_of HT_.out (by kernel_rfl)) (by decide) (by decide) (fun K hK => ?_) (fun K hK => ?_)
     ·
      skip
      refine goes_ Try.func17 (by kernel_rfl) rfl #[.agg #[.slice A1_0 l1_0.length c1_0, .slice A1_1 l1_1.length c1_1]] (by rfl) rfl rfl (by (try simp only [List.map_toArray, List.map_cons, List.map_nil]); first | done | rfl | (simp only [List.length_drop, List.length_take]; rfl)) ?_
      with_reducible refine (laws_toArray.calls k _ _ l1_0 _ _ l1_1 t318 t321 _ ?side1 ?side2 ?side3 ?side4 A20.out).mono ?_
      (case side1 => exact cU (Kd.C_below HR1_0.out HB.out))
      (case side2 => exact HC1_0.out)
      (case side3 => exact cU (Kd.C_below HR1_1.out HB.out))
      (case side4 => exact HC1_1.out)
      rintro e w35 ⟨v319, v322, rfl, ho0, ho1, hb⟩
      refine ⟨_, rfl, ?_⟩
      have HO320 := Aside0.mk (Kd.R_lower (Kd.R_new' (Kd.R_new' ho0 (Kd.R_lt (RU HO314.out))) (Kd.R_lt (RU HO317.out))) (below_size (bS2 HB.out GE308.out GE309.out)))
      have HO323 := Aside0.mk (Kd.R_lower (Kd.R_new' (Kd.R_new' ho1 (Kd.R_lt (RU HO314.out))) (Kd.R_lt (RU HO317.out))) (below_size (bS2 HB.out GE308.out GE309.out)))
      replace HO314 := Aside0.mk (Kd.R_mono (Kd.R_told (Kd.R_told (Kd.R_old (RU HO314.out) hb) (Kd.R_base ho0)) (Kd.R_base ho1)) (fun _ h_ => h_.1))
      replace HO317 := Aside0.mk (Kd.R_mono (Kd.R_told (Kd.R_told (Kd.R_old (RU HO317.out) hb) (Kd.R_base ho0)) (Kd.R_base ho1)) (fun _ h_ => h_.1))
      replace BK308 := Aside0.mk (blk_below (g := gb308) (o := .cells #[.slice A0_0 l0_0.length c0_0, .slice A0_1 l0_1.length c0_1] 24 (0, 0)) (kU BK308.out) hb)
      replace BK309 := Aside0.mk (blk_below (g := gb309) (o := .cells #[.slice A1_0 l1_0.length c1_0, .slice A1_1 l1_1.length c1_1] 24 (0, 0)) (kU BK309.out) hb)
      replace HB := Aside0.mk (below_step (bS2 HB.out GE308.out GE309.out) hb)
      (try clear hb)
      (try clear hb2)
      (try clear hk)
      (try clear hi)
      (try clear ho0)
      (try clear ho1)
      obtain ⟨Ao36, co36, eo36⟩ := Kd.R_slice HO314.out
      (first | subst eo36 | (injection eo36 with f1_ f2_ f3_; have f4_ := f1_.symm; have f5_ := f3_.symm; clear f1_ f2_ f3_; subst f4_; subst f5_))
      obtain ⟨Ao37, co37, eo37⟩ := Kd.R_slice HO317.out
      (first | subst eo37 | (injection eo37 with f1_ f2_ f3_; have f4_ := f1_.symm; have f5_ := f3_.symm; clear f1_ f2_ f3_; subst f4_; subst f5_))
      obtain ⟨Ao38, co38, eo38⟩ := Kd.R_slice HO320.out
      (first | subst eo38 | (injection eo38 with f1_ f2_ f3_; have f4_ := f1_.symm; have f5_ := f3_.symm; clear f1_ f2_ f3_; subst f4_; subst f5_))
      obtain ⟨Ao39, co39, eo39⟩ := Kd.R_slice HO323.out
      (first | subst eo39 | (injection eo39 with f1_ f2_ f3_; have f4_ := f1_.symm; have f5_ := f3_.symm; clear f1_ f2_ f3_; subst f4_; subst f5_))
      refine hK.out _ _ ⟨(blk_cell BK308.out 0).trans rfl, (blk_cell BK308.out 1).trans rfl, (blk_cell BK309.out 0).trans rfl, (blk_cell BK309.out 1).trans rfl⟩ (fun hHeld => ?_)
      clear hK K
      refine norm_ (a' := ?_) ?_ ?_
      rotate_left
      ·
       show Act.put _ (some 31) _ = _
       simp only [Act.put, List.setIfInBounds_toArray, List.set_cons_zero, List.set_cons_succ, i64_w, i32_w]
       rfl
      refine two_ (i := 4) (j := 8) (Ni := some 32) (Nj := some 6) #[true, true, true, true, true, false, false, false, false, false, false] #[true, true, true, true, false, false, false, false, true, false, false] rfl rfl rfl rfl (two_of HT_.out (by kernel_rfl)) (by decide) (by decide) (fun K hK => ?_) (fun K hK => ?_)
      ·
       skip
       refine goes_ Try.func39 (by kernel_rfl) rfl #[.agg #[.slice Ao36 t312.length co36, .slice Ao37 t315.length co37], .agg #[.slice Ao38 t318.length co38, .slice Ao39 t321.length co39]] (by rfl) rfl rfl (by (try simp only [List.map_toArray, List.map_cons, List.map_nil]); first | done | rfl | (simp only [List.length_drop, List.length_take]; rfl)) ?_
       with_reducible refine (spec_Rotate.calls k _ _ t312 _ _ t315 _ _ t318 _ _ t321 t324 t327 t330 _ ?side1 ?side2 ?side3 ?side4 ?side5 ?side6 ?side7 ?side8 A21.out).mono ?_
       (case side1 => exact cU (Kd.R_reads' HO314.out).2.2)
       (case side2 => exact (Kd.R_reads' HO314.out).2.1)
       (case side3 => exact cU (Kd.R_reads' HO317.out).2.2)
       (case side4 => exact (Kd.R_reads' HO317.out).2.1)
       (case side5 => exact cU (Kd.R_reads' HO320.out).2.2)
       (case side6 => exact (Kd.R_reads' HO320.out).2.1)
       (case side7 => exact cU (Kd.R_reads' HO323.out).2.2)
       (case side8 => exact (Kd.R_reads' HO323.out).2.1)
       rintro e w40 ⟨v325, v328, rfl, ho0, ho1, hb⟩
       refine ⟨_, rfl, ?_⟩
       have HO326 := Aside0.mk (Kd.R_lower (Kd.R_new' (Kd.R_new' (Kd.R_new' (Kd.R_new' ho0 (Kd.R_lt (RU HO314.out))) (Kd.R_lt (RU HO317.out))) (Kd.R_lt (RU HO320.out))) (Kd.R_lt (RU HO323.out))) (below_size (bS2 HB.out GE308.out GE309.out)))
       have HO329 := Aside0.mk (Kd.R_lower (Kd.R_new' (Kd.R_new' (Kd.R_new' (Kd.R_new' ho1 (Kd.R_lt (RU HO314.out))) (Kd.R_lt (RU HO317.out))) (Kd.R_lt (RU HO320.out))) (Kd.R_lt (RU HO323.out))) (below_size (bS2 HB.out GE308.out GE309.out)))
       replace HO314 := Aside0.mk (Kd.R_mono (Kd.R_told (Kd.R_told (Kd.R_old (RU HO314.out) hb) (Kd.R_base ho0)) (Kd.R_base ho1)) (fun _ h_ => h_.1))
       replace HO317 := Aside0.mk (Kd.R_mono (Kd.R_told (Kd.R_told (Kd.R_old (RU HO317.out) hb) (Kd.R_base ho0)) (Kd.R_base ho1)) (fun _ h_ => h_.1))
       replace HO320 := Aside0.mk (Kd.R_mono (Kd.R_told (Kd.R_told (Kd.R_old (RU HO320.out) hb) (Kd.R_base ho0)) (Kd.R_base ho1)) (fun _ h_ => h_.1))
       replace HO323 := Aside0.mk (Kd.R_mono (Kd.R_told (Kd.R_told (Kd.R_old (RU HO323.out) hb) (Kd.R_base ho0)) (Kd.R_base ho1)) (fun _ h_ => h_.1))
       replace BK308 := Aside0.mk (blk_below (g := gb308) (o := .cells #[.slice A0_0 l0_0.length c0_0, .slice A0_1 l0_1.length c0_1] 24 (0, 0)) (kU BK308.out) hb)
       replace BK309 := Aside0.mk (blk_below (g := gb309) (o := .cells #[.slice A1_0 l1_0.length c1_0, .slice A1_1 l1_1.length c1_1] 24 (0, 0)) (kU BK309.out) hb)
       replace HB := Aside0.mk (below_step (bS2 HB.out GE308.out GE309.out) hb)
       (try clear hb)
       (try clear hb2)
       (try clear hk)
       (try clear hi)
       (try clear ho0)
       (try clear ho1)
       refine hK.out _ _ ⟨(blk_cell BK308.out 0).trans rfl, (blk_cell BK308.out 1).trans rfl, (blk_cell BK309.out 0).trans rfl, (blk_cell BK309.out 1).trans rfl⟩ (fun hHeld => ?_)
       clear hK K
       refine norm_ (a' := ?_) ?_ ?_
       rotate_left
       ·
        show Act.put _ (some 32) _ = _
        simp only [Act.put, List.setIfInBounds_toArray, List.set_cons_zero, List.set_cons_succ, i64_w, i32_w]
        rfl
       refine pure_ (i := 5) (N := some 27) (v := ?_) (a' := ?_) #[true, true, true, true, true, true, false, false, false, false, false] rfl rfl (any_of HT_.out (by kernel_rfl)) (fun _ _ _ h => h) (Or.inl ⟨by rfl, ?_⟩) ?_ ?_
       rotate_left
       ·
        intro w'
        go_simp
        with_reducible rfl
       rotate_left
       ·
        simp only [Act.put, List.setIfInBounds_toArray, List.set_cons_zero, List.set_cons_succ, i64_w, i32_w]
        rfl
       refine pure_ (i := 6) (N := some 33) (v := ?_) (a' := ?_) #[true, true, true, true, true, true, true, false, false, false, false] rfl rfl (any_of HT_.out (by kernel_rfl)) (fun _ _ _ h => h) (Or.inl ⟨by rfl, ?_⟩) ?_ ?_
       rotate_left
       ·
        intro w'
        go_simp
        with_reducible rfl
       rotate_left
       ·
        simp only [Act.put, List.setIfInBounds_toArray, List.set_cons_zero, List.set_cons_succ, i64_w, i32_w]
        rfl
       refine pure_ (i := 7) (N := some 34) (v := ?_) (a' := ?_) #[true, true, true, true, true, true, true, true, false, false, false] rfl rfl (any_of HT_.out (by kernel_rfl)) (fun _ _ _ h => h) (Or.inl ⟨by rfl, ?_⟩) ?_ ?_
       rotate_left
       ·
        intro w'
        go_simp
        with_reducible rfl
       rotate_left
       ·
        simp only [Act.put, List.setIfInBounds_toArray, List.set_cons_zero, List.set_cons_succ, i64_w, i32_w]
        rfl
       refine one_ (i := 8) (N := some 6) #[true, true, true, true, true, true, true, true, true, false, false] rfl rfl (one_of HT_.out (by kernel_rfl)) (by decide) (fun K hK => ?_)
       refine box_step ?hg (N := 6) ?hd (cs := #[.slice none 0 0, .slice none 0 0]) (t := 26) ?hr ?_; (case hd => rfl); (case hg => rfl); (case hr => first | (go_simp; done) | (go_simp; rfl))
       intro gb331 hg w41 hbox hb
       replace HO314 := Aside0.mk (Kd.R_below (RU HO314.out) hb)
       replace HO317 := Aside0.mk (Kd.R_below (RU HO317.out) hb)
       replace HO320 := Aside0.mk (Kd.R_below (RU HO320.out) hb)
       replace HO323 := Aside0.mk (Kd.R_below (RU HO323.out) hb)
       replace HO326 := Aside0.mk (Kd.R_below (RU HO326.out) hb)
       replace HO329 := Aside0.mk (Kd.R_below (RU HO329.out) hb)
       have BK331 := Aside0.mk (hbox)
       have GW331 := Aside0.mk ((by rw [hg]; exact (below_size (bS2 HB.out GE308.out GE309.out)) : w.heap.size ≤ gb331))
       have GE331 := Aside0.mk ((by rw [hg]; exact (below_size (bS2 HB.out GE308.out GE309.out)) : w.heap.size ≤ gb331))
       replace HB := Aside0.mk (below_step (bS2 HB.out GE308.out GE309.out) hb)
       have NB308_331 := Aside0.mk ((by rw [hg]; exact Nat.ne_of_lt (blk_lt (g := gb308) (o := .cells #[.slice A0_0 l0_0.length c0_0, .slice A0_1 l0_1.length c0_1] 24 (0, 0)) (kU BK308.out)) : gb308 ≠ gb331))
       have NB331_308 := Aside0.mk ((by rw [hg]; exact Nat.ne_of_gt (blk_lt (g := gb308) (o := .cells #[.slice A0_0 l0_0.length c0_0, .slice A0_1 l0_1.length c0_1] 24 (0, 0)) (kU BK308.out)) : gb331 ≠ gb308))
       replace BK308 := Aside0.mk (blk_below (g := gb308) (o := .cells #[.slice A0_0 l0_0.length c0_0, .slice A0_1 l0_1.length c0_1] 24 (0, 0)) (kU BK308.out) hb)
       have NB309_331 := Aside0.mk ((by rw [hg]; exact Nat.ne_of_lt (blk_lt (g := gb309) (o := .cells #[.slice A1_0 l1_0.length c1_0, .slice A1_1 l1_1.length c1_1] 24 (0, 0)) (kU BK309.out)) : gb309 ≠ gb331))
       have NB331_309 := Aside0.mk ((by rw [hg]; exact Nat.ne_of_gt (blk_lt (g := gb309) (o := .cells #[.slice A1_0 l1_0.length c1_0, .slice A1_1 l1_1.length c1_1] 24 (0, 0)) (kU BK309.out)) : gb331 ≠ gb309))
       replace BK309 := Aside0.mk (blk_below (g := gb309) (o := .cells #[.slice A1_0 l1_0.length c1_0, .slice A1_1 l1_1.length c1_1] 24 (0, 0)) (kU BK309.out) hb)
       clear hb hbox hg
       refine hK.out _ _ ⟨(blk_cell BK308.out 0).trans rfl, (blk_cell BK308.out 1).trans rfl, (blk_cell BK309.out 0).trans rfl, (blk_cell BK309.out 1).trans rfl⟩ (fun hHeld => ?_)
       clear hK K
       refine norm_ (a' := ?_) ?_ ?_
       rotate_left
       ·
        show Act.put _ (some 6) _ = _
        simp only [Act.put, List.setIfInBounds_toArray, List.set_cons_zero, List.set_cons_succ, i64_w, i32_w]
        rfl
       exact norm_ (by simp only [putAll, Act.put, List.setIfInBounds_toArray, List.set_cons_zero, List.set_cons_succ]) (hCont (.slice Ao36 t312.length co36, .slice Ao37 t315.length co37, .slice Ao38 t318.length co38, .slice Ao39 t321.length co39, v325, v328, gb331) _ ⟨hHeld, (by (with_reducible repeat (first | apply Kd.R_alloc | apply Kd.R_drewN | apply Kd.R_drew)); exact Kd.R_mono HO314.out (fun _ hk => ⟨hk.1.1.1.1, ⟨hk.1.1.1.2, ⟨hk.1.1.2, ⟨hk.1.2, hk.2⟩⟩⟩⟩)), (by (with_reducible repeat (first | apply Kd.R_alloc | apply Kd.R_drewN | apply Kd.R_drew)); exact Kd.R_mono HO317.out (fun _ hk => ⟨hk.1.1.1.1, ⟨hk.1.1.1.2, ⟨hk.1.1.2, ⟨hk.1.2, hk.2⟩⟩⟩⟩)), (by (with_reducible repeat (first | apply Kd.R_alloc | apply Kd.R_drewN | apply Kd.R_drew)); exact Kd.R_mono HO320.out (fun _ hk => ⟨hk.1.1.1.2, ⟨hk.1.1.2, ⟨hk.1.1.1.1, ⟨hk.1.2, hk.2⟩⟩⟩⟩)), (by (with_reducible repeat (first | apply Kd.R_alloc | apply Kd.R_drewN | apply Kd.R_drew)); exact Kd.R_mono HO323.out (fun _ hk => ⟨hk.1.1.1.2, ⟨hk.1.1.2, ⟨hk.1.1.1.1, ⟨hk.1.2, hk.2⟩⟩⟩⟩)), (by (with_reducible repeat (first | apply Kd.R_alloc | apply Kd.R_drewN | apply Kd.R_drew)); exact Kd.R_mono HO326.out (fun _ hk => ⟨hk.1.1.1.2, ⟨hk.1.1.2, ⟨hk.1.2, ⟨hk.2, hk.1.1.1.1⟩⟩⟩⟩)), (by (with_reducible repeat (first | apply Kd.R_alloc | apply Kd.R_drewN | apply Kd.R_drew)); exact Kd.R_mono HO329.out (fun _ hk => ⟨hk.1.1.1.2, ⟨hk.1.1.2, ⟨hk.1.2, ⟨hk.2, hk.1.1.1.1⟩⟩⟩⟩)), (kU BK308.out), (kU BK309.out), (kU BK331.out), GW331.out, GE331.out, NB308_331.out, NB331_308.out, NB309_331.out, NB331_309.out, (bS3 HB.out GE308.out GE309.out GE331.out)⟩)
      ·
       skip
       refine box_step ?hg (N := 6) ?hd (cs := #[.slice none 0 0, .slice none 0 0]) (t := 26) ?hr ?_; (case hd => rfl); (case hg => rfl); (case hr => first | (go_simp; done) | (go_simp; rfl))
       intro gb331 hg w36 hbox hb
       replace HO314 := Aside0.mk (Kd.R_below (RU HO314.out) hb)
       replace HO317 := Aside0.mk (Kd.R_below (RU HO317.out) hb)
       replace HO320 := Aside0.mk (Kd.R_below (RU HO320.out) hb)
       replace HO323 := Aside0.mk (Kd.R_below (RU HO323.out) hb)
       have BK331 := Aside0.mk (hbox)
       have GW331 := Aside0.mk ((by rw [hg]; exact (below_size (bS2 HB.out GE308.out GE309.out)) : w.heap.size ≤ gb331))
       have GE331 := Aside0.mk ((by rw [hg]; exact (below_size (bS2 HB.out GE308.out GE309.out)) : w.heap.size ≤ gb331))
       replace HB := Aside0.mk (below_step (bS2 HB.out GE308.out GE309.out) hb)
       have NB308_331 := Aside0.mk ((by rw [hg]; exact Nat.ne_of_lt (blk_lt (g := gb308) (o := .cells #[.slice A0_0 l0_0.length c0_0, .slice A0_1 l0_1.length c0_1] 24 (0, 0)) (kU BK308.out)) : gb308 ≠ gb331))
       have NB331_308 := Aside0.mk ((by rw [hg]; exact Nat.ne_of_gt (blk_lt (g := gb308) (o := .cells #[.slice A0_0 l0_0.length c0_0, .slice A0_1 l0_1.length c0_1] 24 (0, 0)) (kU BK308.out)) : gb331 ≠ gb308))
       replace BK308 := Aside0.mk (blk_below (g := gb308) (o := .cells #[.slice A0_0 l0_0.length c0_0, .slice A0_1 l0_1.length c0_1] 24 (0, 0)) (kU BK308.out) hb)
       have NB309_331 := Aside0.mk ((by rw [hg]; exact Nat.ne_of_lt (blk_lt (g := gb309) (o := .cells #[.slice A1_0 l1_0.length c1_0, .slice A1_1 l1_1.length c1_1] 24 (0, 0)) (kU BK309.out)) : gb309 ≠ gb331))
       have NB331_309 := Aside0.mk ((by rw [hg]; exact Nat.ne_of_gt (blk_lt (g := gb309) (o := .cells #[.slice A1_0 l1_0.length c1_0, .slice A1_1 l1_1.length c1_1] 24 (0, 0)) (kU BK309.out)) : gb331 ≠ gb309))
       replace BK309 := Aside0.mk (blk_below (g := gb309) (o := .cells #[.slice A1_0 l1_0.length c1_0, .slice A1_1 l1_1.length c1_1] 24 (0, 0)) (kU BK309.out) hb)
       clear hb hbox hg
       obtain ⟨Ao37, co37, eo37⟩ := Kd.R_slice HO314.out
       (first | subst eo37 | (injection eo37 with f1_ f2_ f3_; have f4_ := f1_.symm; have f5_ := f3_.symm; clear f1_ f2_ f3_; subst f4_; subst f5_))
       obtain ⟨Ao38, co38, eo38⟩ := Kd.R_slice HO317.out
       (first | subst eo38 | (injection eo38 with f1_ f2_ f3_; have f4_ := f1_.symm; have f5_ := f3_.symm; clear f1_ f2_ f3_; subst f4_; subst f5_))
       obtain ⟨Ao39, co39, eo39⟩ := Kd.R_slice HO320.out
       (first | subst eo39 | (injection eo39 with f1_ f2_ f3_; have f4_ := f1_.symm; have f5_ := f3_.symm; clear f1_ f2_ f3_; subst f4_; subst f5_))
       obtain ⟨Ao40, co40, eo40⟩ := Kd.R_slice HO323.out
       (first | subst eo40 | (injection eo40 with f1_ f2_ f3_; have f4_ := f1_.symm; have f5_ := f3_.symm; clear f1_ f2_ f3_; subst f4_; subst f5_))
       refine hK.out _ _ ⟨(blk_cell BK308.out 0).trans rfl, (blk_cell BK308.out 1).trans rfl, (blk_cell BK309.out 0).trans rfl, (blk_cell BK309.out 1).trans rfl⟩ (fun hHeld => ?_)
       clear hK K
       refine norm_ (a' := ?_) ?_ ?_
       rotate_left
       ·
        show Act.put _ (some 6) _ = _
        simp only [Act.put, List.setIfInBounds_toArray, List.set_cons_zero, List.set_cons_succ, i64_w, i32_w]
        rfl
       refine one_ (i := 4) (N := some 32) #[true, true, true, true, true, false, false, false, true, false, false] rfl rfl (one_of HT_.out (by kernel_rfl)) (by decide) (fun K hK => ?_)
       refine goes_ Try.func39 (by kernel_rfl) rfl #[.agg #[.slice Ao37 t312.length co37, .slice Ao38 t315.length co38], .agg #[.slice Ao39 t318.length co39, .slice Ao40 t321.length co40]] (by rfl) rfl rfl (by (try simp only [List.map_toArray, List.map_cons, List.map_nil]); first | done | rfl | (simp only [List.length_drop, List.length_take]; rfl)) ?_
       with_reducible refine (spec_Rotate.calls k _ _ t312 _ _ t315 _ _ t318 _ _ t321 t324 t327 t330 _ ?side1 ?side2 ?side3 ?side4 ?side5 ?side6 ?side7 ?side8 A21.out).mono ?_
       (case side1 => exact cU (Kd.R_reads' HO314.out).2.2)
       (case side2 => exact (Kd.R_reads' HO314.out).2.1)
       (case side3 => exact cU (Kd.R_reads' HO317.out).2.2)
       (case side4 => exact (Kd.R_reads' HO317.out).2.1)
       (case side5 => exact cU (Kd.R_reads' HO320.out).2.2)
       (case side6 => exact (Kd.R_reads' HO320.out).2.1)
       (case side7 => exact cU (Kd.R_reads' HO323.out).2.2)
       (case side8 => exact (Kd.R_reads' HO323.out).2.1)
       rintro e w41 ⟨v325, v328, rfl, ho0, ho1, hb⟩
       refine ⟨_, rfl, ?_⟩
       have HO326 := Aside0.mk (Kd.R_lower (Kd.R_new' (Kd.R_new' (Kd.R_new' (Kd.R_new' ho0 (Kd.R_lt (RU HO314.out))) (Kd.R_lt (RU HO317.out))) (Kd.R_lt (RU HO320.out))) (Kd.R_lt (RU HO323.out))) (below_size (bS3 HB.out GE308.out GE309.out GE331.out)))
       have HO329 := Aside0.mk (Kd.R_lower (Kd.R_new' (Kd.R_new' (Kd.R_new' (Kd.R_new' ho1 (Kd.R_lt (RU HO314.out))) (Kd.R_lt (RU HO317.out))) (Kd.R_lt (RU HO320.out))) (Kd.R_lt (RU HO323.out))) (below_size (bS3 HB.out GE308.out GE309.out GE331.out)))
       replace HO314 := Aside0.mk (Kd.R_mono (Kd.R_told (Kd.R_told (Kd.R_old (RU HO314.out) hb) (Kd.R_base ho0)) (Kd.R_base ho1)) (fun _ h_ => h_.1))
       replace HO317 := Aside0.mk (Kd.R_mono (Kd.R_told (Kd.R_told (Kd.R_old (RU HO317.out) hb) (Kd.R_base ho0)) (Kd.R_base ho1)) (fun _ h_ => h_.1))
       replace HO320 := Aside0.mk (Kd.R_mono (Kd.R_told (Kd.R_told (Kd.R_old (RU HO320.out) hb) (Kd.R_base ho0)) (Kd.R_base ho1)) (fun _ h_ => h_.1))
       replace HO323 := Aside0.mk (Kd.R_mono (Kd.R_told (Kd.R_told (Kd.R_old (RU HO323.out) hb) (Kd.R_base ho0)) (Kd.R_base ho1)) (fun _ h_ => h_.1))
       replace BK308 := Aside0.mk (blk_below (g := gb308) (o := .cells #[.slice A0_0 l0_0.length c0_0, .slice A0_1 l0_1.length c0_1] 24 (0, 0)) (kU BK308.out) hb)
       replace BK309 := Aside0.mk (blk_below (g := gb309) (o := .cells #[.slice A1_0 l1_0.length c1_0, .slice A1_1 l1_1.length c1_1] 24 (0, 0)) (kU BK309.out) hb)
       replace BK331 := Aside0.mk (blk_below (g := gb331) (o := .cells #[.slice none 0 0, .slice none 0 0] 26 (0, 0)) (kU BK331.out) hb)
       replace HB := Aside0.mk (below_step (bS3 HB.out GE308.out GE309.out GE331.out) hb)
       (try clear hb)
       (try clear hb2)
       (try clear hk)
       (try clear hi)
       (try clear ho0)
       (try clear ho1)
       refine hK.out _ _ ⟨(blk_cell BK308.out 0).trans rfl, (blk_cell BK308.out 1).trans rfl, (blk_cell BK309.out 0).trans rfl, (blk_cell BK309.out 1).trans rfl⟩ (fun hHeld => ?_)
       clear hK K
       refine norm_ (a' := ?_) ?_ ?_
       rotate_left
       ·
        show Act.put _ (some 32) _ = _
        simp only [Act.put, List.setIfInBounds_toArray, List.set_cons_zero, List.set_cons_succ, i64_w, i32_w]
        rfl
       refine pure_ (i := 5) (N := some 27) (v := ?_) (a' := ?_) #[true, true, true, true, true, true, false, false, true, false, false] rfl rfl (any_of HT_.out (by kernel_rfl)) (fun _ _ _ h => h) (Or.inl ⟨by rfl, ?_⟩) ?_ ?_
       rotate_left
       ·
        intro w'
        go_simp
        with_reducible rfl
       rotate_left
       ·
        simp only [Act.put, List.setIfInBounds_toArray, List.set_cons_zero, List.set_cons_succ, i64_w, i32_w]
        rfl
       refine pure_ (i := 6) (N := some 33) (v := ?_) (a' := ?_) #[true, true, true, true, true, true, true, false, true, false, false] rfl rfl (any_of HT_.out (by kernel_rfl)) (fun _ _ _ h => h) (Or.inl ⟨by rfl, ?_⟩) ?_ ?_
       rotate_left
       ·
        intro w'
        go_simp
        with_reducible rfl
       rotate_left
       ·
        simp only [Act.put, List.setIfInBounds_toArray, List.set_cons_zero, List.set_cons_succ, i64_w, i32_w]
        rfl
       refine pure_ (i := 7) (N := some 34) (v := ?_) (a' := ?_) #[true, true, true, true, true, true, true, true, true, false, false] rfl rfl (any_of HT_.out (by kernel_rfl)) (fun _ _ _ h => h) (Or.inl ⟨by rfl, ?_⟩) ?_ ?_
       rotate_left
       ·
        intro w'
        go_simp
        with_reducible rfl
       rotate_left
       ·
        simp only [Act.put, List.setIfInBounds_toArray, List.set_cons_zero, List.set_cons_succ, i64_w, i32_w]
        rfl
       exact norm_ (by simp only [putAll, Act.put, List.setIfInBounds_toArray, List.set_cons_zero, List.set_cons_succ]) (hCont (.slice Ao37 t312.length co37, .slice Ao38 t315.length co38, .slice Ao39 t318.length co39, .slice Ao40 t321.length co40, v325, v328, gb331) _ ⟨hHeld, (by (with_reducible repeat (first | apply Kd.R_alloc | apply Kd.R_drewN | apply Kd.R_drew)); exact Kd.R_mono HO314.out (fun _ hk => ⟨hk.1.1.1.1, ⟨hk.1.1.1.2, ⟨hk.1.1.2, ⟨hk.1.2, hk.2⟩⟩⟩⟩)), (by (with_reducible repeat (first | apply Kd.R_alloc | apply Kd.R_drewN | apply Kd.R_drew)); exact Kd.R_mono HO317.out (fun _ hk => ⟨hk.1.1.1.1, ⟨hk.1.1.1.2, ⟨hk.1.1.2, ⟨hk.1.2, hk.2⟩⟩⟩⟩)), (by (with_reducible repeat (first | apply Kd.R_alloc | apply Kd.R_drewN | apply Kd.R_drew)); exact Kd.R_mono HO320.out (fun _ hk => ⟨hk.1.1.1.2, ⟨hk.1.1.2, ⟨hk.1.1.1.1, ⟨hk.1.2, hk.2⟩⟩⟩⟩)), (by (with_reducible repeat (first | apply Kd.R_alloc | apply Kd.R_drewN | apply Kd.R_drew)); exact Kd.R_mono HO323.out (fun _ hk => ⟨hk.1.1.1.2, ⟨hk.1.1.2, ⟨hk.1.1.1.1, ⟨hk.1.2, hk.2⟩⟩⟩⟩)), (by (with_reducible repeat (first | apply Kd.R_alloc | apply Kd.R_drewN | apply Kd.R_drew)); exact Kd.R_mono HO326.out (fun _ hk => ⟨hk.1.1.1.2, ⟨hk.1.1.2, ⟨hk.1.2, ⟨hk.2, hk.1.1.1.1⟩⟩⟩⟩)), (by (with_reducible repeat (first | apply Kd.R_alloc | apply Kd.R_drewN | apply Kd.R_drew)); exact Kd.R_mono HO329.out (fun _ hk => ⟨hk.1.1.1.2, ⟨hk.1.1.2, ⟨hk.1.2, ⟨hk.2, hk.1.1.1.1⟩⟩⟩⟩)), (kU BK308.out), (kU BK309.out), (kU BK331.out), GW331.out, GE331.out, NB308_331.out, NB331_308.out, NB309_331.out, NB331_309.out, (bS3 HB.out GE308.out GE309.out GE331.out)⟩)
     ·
      skip
      refine box_step ?hg (N := 6) ?hd (cs := #[.slice none 0 0, .slice none 0 0]) (t := 26) ?hr ?_; (case hd => rfl); (case hg => rfl); (case hr => first | (go_simp; done) | (go_simp; rfl))
      intro gb331 hg w35 hbox hb
      replace HO314 := Aside0.mk (Kd.R_below (RU HO314.out) hb)
      replace HO317 := Aside0.mk (Kd.R_below (RU HO317.out) hb)
      have BK331 := Aside0.mk (hbox)
      have GW331 := Aside0.mk ((by rw [hg]; exact (below_size (bS2 HB.out GE308.out GE309.out)) : w.heap.size ≤ gb331))
      have GE331 := Aside0.mk ((by rw [hg]; exact (below_size (bS2 HB.out GE308.out GE309.out)) : w.heap.size ≤ gb331))
      replace HB := Aside0.mk (below_step (bS2 HB.out GE308.out GE309.out) hb)
      have NB308_331 := Aside0.mk ((by rw [hg]; exact Nat.ne_of_lt (blk_lt (g := gb308) (o := .cells #[.slice A0_0 l0_0.length c0_0, .slice A0_1 l0_1.length c0_1] 24 (0, 0)) (kU BK308.out)) : gb308 ≠ gb331))
      have NB331_308 := Aside0.mk ((by rw [hg]; exact Nat.ne_of_gt (blk_lt (g := gb308) (o := .cells #[.slice A0_0 l0_0.length c0_0, .slice A0_1 l0_1.length c0_1] 24 (0, 0)) (kU BK308.out)) : gb331 ≠ gb308))
      replace BK308 := Aside0.mk (blk_below (g := gb308) (o := .cells #[.slice A0_0 l0_0.length c0_0, .slice A0_1 l0_1.length c0_1] 24 (0, 0)) (kU BK308.out) hb)
      have NB309_331 := Aside0.mk ((by rw [hg]; exact Nat.ne_of_lt (blk_lt (g := gb309) (o := .cells #[.slice A1_0 l1_0.length c1_0, .slice A1_1 l1_1.length c1_1] 24 (0, 0)) (kU BK309.out)) : gb309 ≠ gb331))
      have NB331_309 := Aside0.mk ((by rw [hg]; exact Nat.ne_of_gt (blk_lt (g := gb309) (o := .cells #[.slice A1_0 l1_0.length c1_0, .slice A1_1 l1_1.length c1_1] 24 (0, 0)) (kU BK309.out)) : gb331 ≠ gb309))
      replace BK309 := Aside0.mk (blk_below (g := gb309) (o := .cells #[.slice A1_0 l1_0.length c1_0, .slice A1_1 l1_1.length c1_1] 24 (0, 0)) (kU BK309.out) hb)
      clear hb hbox hg
      refine hK.out _ _ ⟨(blk_cell BK308.out 0).trans rfl, (blk_cell BK308.out 1).trans rfl, (blk_cell BK309.out 0).trans rfl, (blk_cell BK309.out 1).trans rfl⟩ (fun hHeld => ?_)
      clear hK K
      refine norm_ (a' := ?_) ?_ ?_
      rotate_left
      ·
       show Act.put _ (some 6) _ = _
       simp only [Act.put, List.setIfInBounds_toArray, List.set_cons_zero, List.set_cons_succ, i64_w, i32_w]
       rfl
      refine one_ (i := 3) (N := some 31) #[true, true, true, true, false, false, false, false, true, false, false] rfl rfl (one_of HT_.out (by kernel_rfl)) (by decide) (fun K hK => ?_)
      refine goes_ Try.func17 (by kernel_rfl) rfl #[.agg #[.slice A1_0 l1_0.length c1_0, .slice A1_1 l1_1.length c1_1]] (by rfl) rfl rfl (by (try simp only [List.map_toArray, List.map_cons, List.map_nil]); first | done | rfl | (simp only [List.length_drop, List.length_take]; rfl)) ?_
      with_reducible refine (laws_toArray.calls k _ _ l1_0 _ _ l1_1 t318 t321 _ ?side1 ?side2 ?side3 ?side4 A20.out).mono ?_
      (case side1 => exact cU (Kd.C_below HR1_0.out HB.out))
      (case side2 => exact HC1_0.out)
      (case side3 => exact cU (Kd.C_below HR1_1.out HB.out))
      (case side4 => exact HC1_1.out)
      rintro e w36 ⟨v319, v322, rfl, ho0, ho1, hb⟩
      refine ⟨_, rfl, ?_⟩
      have HO320 := Aside0.mk (Kd.R_lower (Kd.R_new' (Kd.R_new' ho0 (Kd.R_lt (RU HO314.out))) (Kd.R_lt (RU HO317.out))) (below_size (bS3 HB.out GE308.out GE309.out GE331.out)))
      have HO323 := Aside0.mk (Kd.R_lower (Kd.R_new' (Kd.R_new' ho1 (Kd.R_lt (RU HO314.out))) (Kd.R_lt (RU HO317.out))) (below_size (bS3 HB.out GE308.out GE309.out GE331.out)))
      replace HO314 := Aside0.mk (Kd.R_mono (Kd.R_told (Kd.R_told (Kd.R_old (RU HO314.out) hb) (Kd.R_base ho0)) (Kd.R_base ho1)) (fun _ h_ => h_.1))
      replace HO317 := Aside0.mk (Kd.R_mono (Kd.R_told (Kd.R_told (Kd.R_old (RU HO317.out) hb) (Kd.R_base ho0)) (Kd.R_base ho1)) (fun _ h_ => h_.1))
      replace BK308 := Aside0.mk (blk_below (g := gb308) (o := .cells #[.slice A0_0 l0_0.length c0_0, .slice A0_1 l0_1.length c0_1] 24 (0, 0)) (kU BK308.out) hb)
      replace BK309 := Aside0.mk (blk_below (g := gb309) (o := .cells #[.slice A1_0 l1_0.length c1_0, .slice A1_1 l1_1.length c1_1] 24 (0, 0)) (kU BK309.out) hb)
      replace BK331 := Aside0.mk (blk_below (g := gb331) (o := .cells #[.slice none 0 0, .slice none 0 0] 26 (0, 0)) (kU BK331.out) hb)
      replace HB := Aside0.mk (below_step (bS3 HB.out GE308.out GE309.out GE331.out) hb)
      (try clear hb)
      (try clear hb2)
      (try clear hk)
      (try clear hi)
      (try clear ho0)
      (try clear ho1)
      obtain ⟨Ao37, co37, eo37⟩ := Kd.R_slice HO314.out
      (first | subst eo37 | (injection eo37 with f1_ f2_ f3_; have f4_ := f1_.symm; have f5_ := f3_.symm; clear f1_ f2_ f3_; subst f4_; subst f5_))
      obtain ⟨Ao38, co38, eo38⟩ := Kd.R_slice HO317.out
      (first | subst eo38 | (injection eo38 with f1_ f2_ f3_; have f4_ := f1_.symm; have f5_ := f3_.symm; clear f1_ f2_ f3_; subst f4_; subst f5_))
      obtain ⟨Ao39, co39, eo39⟩ := Kd.R_slice HO320.out
      (first | subst eo39 | (injection eo39 with f1_ f2_ f3_; have f4_ := f1_.symm; have f5_ := f3_.symm; clear f1_ f2_ f3_; subst f4_; subst f5_))
      obtain ⟨Ao40, co40, eo40⟩ := Kd.R_slice HO323.out
      (first | subst eo40 | (injection eo40 with f1_ f2_ f3_; have f4_ := f1_.symm; have f5_ := f3_.symm; clear f1_ f2_ f3_; subst f4_; subst f5_))
      refine hK.out _ _ ⟨(blk_cell BK308.out 0).trans rfl, (blk_cell BK308.out 1).trans rfl, (blk_cell BK309.out 0).trans rfl, (blk_cell BK309.out 1).trans rfl⟩ (fun hHeld => ?_)
      clear hK K
      refine norm_ (a' := ?_) ?_ ?_
      rotate_left
      ·
       show Act.put _ (some 31) _ = _
       simp only [Act.put, List.setIfInBounds_toArray, List.set_cons_zero, List.set_cons_succ, i64_w, i32_w]
       rfl
      refine one_ (i := 4) (N := some 32) #[true, true, true, true, true, false, false, false, true, false, false] rfl rfl (one_of HT_.out (by kernel_rfl)) (by decide) (fun K hK => ?_)
      refine goes_ Try.func39 (by kernel_rfl) rfl #[.agg #[.slice Ao37 t312.length co37, .slice Ao38 t315.length co38], .agg #[.slice Ao39 t318.length co39, .slice Ao40 t321.length co40]] (by rfl) rfl rfl (by (try simp only [List.map_toArray, List.map_cons, List.map_nil]); first | done | rfl | (simp only [List.length_drop, List.length_take]; rfl)) ?_
      with_reducible refine (spec_Rotate.calls k _ _ t312 _ _ t315 _ _ t318 _ _ t321 t324 t327 t330 _ ?side1 ?side2 ?side3 ?side4 ?side5 ?side6 ?side7 ?side8 A21.out).mono ?_
      (case side1 => exact cU (Kd.R_reads' HO314.out).2.2)
      (case side2 => exact (Kd.R_reads' HO314.out).2.1)
      (case side3 => exact cU (Kd.R_reads' HO317.out).2.2)
      (case side4 => exact (Kd.R_reads' HO317.out).2.1)
      (case side5 => exact cU (Kd.R_reads' HO320.out).2.2)
      (case side6 => exact (Kd.R_reads' HO320.out).2.1)
      (case side7 => exact cU (Kd.R_reads' HO323.out).2.2)
      (case side8 => exact (Kd.R_reads' HO323.out).2.1)
      rintro e w41 ⟨v325, v328, rfl, ho0, ho1, hb⟩
      refine ⟨_, rfl, ?_⟩
      have HO326 := Aside0.mk (Kd.R_lower (Kd.R_new' (Kd.R_new' (Kd.R_new' (Kd.R_new' ho0 (Kd.R_lt (RU HO314.out))) (Kd.R_lt (RU HO317.out))) (Kd.R_lt (RU HO320.out))) (Kd.R_lt (RU HO323.out))) (below_size (bS3 HB.out GE308.out GE309.out GE331.out)))
      have HO329 := Aside0.mk (Kd.R_lower (Kd.R_new' (Kd.R_new' (Kd.R_new' (Kd.R_new' ho1 (Kd.R_lt (RU HO314.out))) (Kd.R_lt (RU HO317.out))) (Kd.R_lt (RU HO320.out))) (Kd.R_lt (RU HO323.out))) (below_size (bS3 HB.out GE308.out GE309.out GE331.out)))
      replace HO314 := Aside0.mk (Kd.R_mono (Kd.R_told (Kd.R_told (Kd.R_old (RU HO314.out) hb) (Kd.R_base ho0)) (Kd.R_base ho1)) (fun _ h_ => h_.1))
      replace HO317 := Aside0.mk (Kd.R_mono (Kd.R_told (Kd.R_told (Kd.R_old (RU HO317.out) hb) (Kd.R_base ho0)) (Kd.R_base ho1)) (fun _ h_ => h_.1))
      replace HO320 := Aside0.mk (Kd.R_mono (Kd.R_told (Kd.R_told (Kd.R_old (RU HO320.out) hb) (Kd.R_base ho0)) (Kd.R_base ho1)) (fun _ h_ => h_.1))
      replace HO323 := Aside0.mk (Kd.R_mono (Kd.R_told (Kd.R_told (Kd.R_old (RU HO323.out) hb) (Kd.R_base ho0)) (Kd.R_base ho1)) (fun _ h_ => h_.1))
      replace BK308 := Aside0.mk (blk_below (g := gb308) (o := .cells #[.slice A0_0 l0_0.length c0_0, .slice A0_1 l0_1.length c0_1] 24 (0, 0)) (kU BK308.out) hb)
      replace BK309 := Aside0.mk (blk_below (g := gb309) (o := .cells #[.slice A1_0 l1_0.length c1_0, .slice A1_1 l1_1.length c1_1] 24 (0, 0)) (kU BK309.out) hb)
      replace BK331 := Aside0.mk (blk_below (g := gb331) (o := .cells #[.slice none 0 0, .slice none 0 0] 26 (0, 0)) (kU BK331.out) hb)
      replace HB := Aside0.mk (below_step (bS3 HB.out GE308.out GE309.out GE331.out) hb)
      (try clear hb)
      (try clear hb2)
      (try clear hk)
      (try clear hi)
      (try clear ho0)
      (try clear ho1)
      refine hK.out _ _ ⟨(blk_cell BK308.out 0).trans rfl, (blk_cell BK308.out 1).trans rfl, (blk_cell BK309.out 0).trans rfl, (blk_cell BK309.out 1).trans rfl⟩ (fun hHeld => ?_)
      clear hK K
      refine norm_ (a' := ?_) ?_ ?_
      rotate_left
      ·
       show Act.put _ (some 32) _ = _
       simp only [Act.put, List.setIfInBounds_toArray, List.set_cons_zero, List.set_cons_succ, i64_w, i32_w]
       rfl
      refine pure_ (i := 5) (N := some 27) (v := ?_) (a' := ?_) #[true, true, true, true, true, true, false, false, true, false, false] rfl rfl (any_of HT_.out (by kernel_rfl)) (fun _ _ _ h => h) (Or.inl ⟨by rfl, ?_⟩) ?_ ?_
      rotate_left
      ·
       intro w'
       go_simp
       with_reducible rfl
      rotate_left
      ·
       simp only [Act.put, List.setIfInBounds_toArray, List.set_cons_zero, List.set_cons_succ, i64_w, i32_w]
       rfl
      refine pure_ (i := 6) (N := some 33) (v := ?_) (a' := ?_) #[true, true, true, true, true, true, true, false, true, false, false] rfl rfl (any_of HT_.out (by kernel_rfl)) (fun _ _ _ h => h) (Or.inl ⟨by rfl, ?_⟩) ?_ ?_
      rotate_left
      ·
       intro w'
       go_simp
       with_reducible rfl
      rotate_left
      ·
       simp only [Act.put, List.setIfInBounds_toArray, List.set_cons_zero, List.set_cons_succ, i64_w, i32_w]
       rfl
      refine pure_ (i := 7) (N := some 34) (v := ?_) (a' := ?_) #[true, true, true, true, true, true, true, true, true, false, false] rfl rfl (any_of HT_.out (by kernel_rfl)) (fun _ _ _ h => h) (Or.inl ⟨by rfl, ?_⟩) ?_ ?_
      rotate_left
      ·
       intro w'
       go_simp
       with_reducible rfl
      rotate_left
      ·
       simp only [Act.put, List.setIfInBounds_toArray, List.set_cons_zero, List.set_cons_succ, i64_w, i32_w]
       rfl
      exact norm_ (by simp only [putAll, Act.put, List.setIfInBounds_toArray, List.set_cons_zero, List.set_cons_succ]) (hCont (.slice Ao37 t312.length co37, .slice Ao38 t315.length co38, .slice Ao39 t318.length co39, .slice Ao40 t321.length co40, v325, v328, gb331) _ ⟨hHeld, (by (with_reducible repeat (first | apply Kd.R_alloc | apply Kd.R_drewN | apply Kd.R_drew)); exact Kd.R_mono HO314.out (fun _ hk => ⟨hk.1.1.1.1, ⟨hk.1.1.1.2, ⟨hk.1.1.2, ⟨hk.1.2, hk.2⟩⟩⟩⟩)), (by (with_reducible repeat (first | apply Kd.R_alloc | apply Kd.R_drewN | apply Kd.R_drew)); exact Kd.R_mono HO317.out (fun _ hk => ⟨hk.1.1.1.1, ⟨hk.1.1.1.2, ⟨hk.1.1.2, ⟨hk.1.2, hk.2⟩⟩⟩⟩)), (by (with_reducible repeat (first | apply Kd.R_alloc | apply Kd.R_drewN | apply Kd.R_drew)); exact Kd.R_mono HO320.out (fun _ hk => ⟨hk.1.1.1.2, ⟨hk.1.1.2, ⟨hk.1.1.1.1, ⟨hk.1.2, hk.2⟩⟩⟩⟩)), (by (with_reducible repeat (first | apply Kd.R_alloc | apply Kd.R_drewN | apply Kd.R_drew)); exact Kd.R_mono HO323.out (fun _ hk => ⟨hk.1.1.1.2, ⟨hk.1.1.2, ⟨hk.1.1.1.1, ⟨hk.1.2, hk.2⟩⟩⟩⟩)), (by (with_reducible repeat (first | apply Kd.R_alloc | apply Kd.R_drewN | apply Kd.R_drew)); exact Kd.R_mono HO326.out (fun _ hk => ⟨hk.1.1.1.2, ⟨hk.1.1.2, ⟨hk.1.2, ⟨hk.2, hk.1.1.1.1⟩⟩⟩⟩)), (by (with_reducible repeat (first | apply Kd.R_alloc | apply Kd.R_drewN | apply Kd.R_drew)); exact Kd.R_mono HO329.out (fun _ hk => ⟨hk.1.1.1.2, ⟨hk.1.1.2, ⟨hk.1.2, ⟨hk.2, hk.1.1.1.1⟩⟩⟩⟩)), (kU BK308.out), (kU BK309.out), (kU BK331.out), GW331.out, GE331.out, NB308_331.out, NB331_308.out, NB309_331.out, NB331_309.out, (bS3 HB.out GE308.out GE309.out GE331.out)⟩)
    ·
     skip
     refine box_step ?hg (N := 6) ?hd (cs := #[.slice none 0 0, .slice none 0 0]) (t := 26) ?hr ?_; (case hd => rfl); (case hg => rfl); (case hr => first | (go_simp; done) | (go_simp; rfl))
     intro gb331 hg w34 hbox hb
     have BK331 := Aside0.mk (hbox)
     have GW331 := Aside0.mk ((by rw [hg]; exact (below_size (bS2 HB.out GE308.out GE309.out)) : w.heap.size ≤ gb331))
     have GE331 := Aside0.mk ((by rw [hg]; exact (below_size (bS2 HB.out GE308.out GE309.out)) : w.heap.size ≤ gb331))
     replace HB := Aside0.mk (below_step (bS2 HB.out GE308.out GE309.out) hb)
     have NB308_331 := Aside0.mk ((by rw [hg]; exact Nat.ne_of_lt (blk_lt (g := gb308) (o := .cells #[.slice A0_0 l0_0.length c0_0, .slice A0_1 l0_1.length c0_1] 24 (0, 0)) (kU BK308.out)) : gb308 ≠ gb331))
     have NB331_308 := Aside0.mk ((by rw [hg]; exact Nat.ne_of_gt (blk_lt (g := gb308) (o := .cells #[.slice A0_0 l0_0.length c0_0, .slice A0_1 l0_1.length c0_1] 24 (0, 0)) (kU BK308.out)) : gb331 ≠ gb308))
     replace BK308 := Aside0.mk (blk_below (g := gb308) (o := .cells #[.slice A0_0 l0_0.length c0_0, .slice A0_1 l0_1.length c0_1] 24 (0, 0)) (kU BK308.out) hb)
     have NB309_331 := Aside0.mk ((by rw [hg]; exact Nat.ne_of_lt (blk_lt (g := gb309) (o := .cells #[.slice A1_0 l1_0.length c1_0, .slice A1_1 l1_1.length c1_1] 24 (0, 0)) (kU BK309.out)) : gb309 ≠ gb331))
     have NB331_309 := Aside0.mk ((by rw [hg]; exact Nat.ne_of_gt (blk_lt (g := gb309) (o := .cells #[.slice A1_0 l1_0.length c1_0, .slice A1_1 l1_1.length c1_1] 24 (0, 0)) (kU BK309.out)) : gb331 ≠ gb309))
     replace BK309 := Aside0.mk (blk_below (g := gb309) (o := .cells #[.slice A1_0 l1_0.length c1_0, .slice A1_1 l1_1.length c1_1] 24 (0, 0)) (kU BK309.out) hb)
     clear hb hbox hg
     refine hK.out _ _ ⟨(blk_cell BK308.out 0).trans rfl, (blk_cell BK308.out 1).trans rfl, (blk_cell BK309.out 0).trans rfl, (blk_cell BK309.out 1).trans rfl⟩ (fun hHeld => ?_)
     clear hK K
     refine norm_ (a' := ?_) ?_ ?_
     rotate_left
     ·
      show Act.put _ (some 6) _ = _
      simp only [Act.put, List.setIfInBounds_toArray, List.set_cons_zero, List.set_cons_succ, i64_w, i32_w]
      rfl
     refine one_ (i := 1) (N := some 29) #[true, true, true, false, false, false, false, false, true, false, false] rfl rfl (one_of HT_.out (by kernel_rfl)) (by decide) (fun K hK => ?_)
     refine goes_ Try.func17 (by kernel_rfl) rfl #[.agg #[.slice A0_0 l0_0.length c0_0, .slice A0_1 l0_1.length c0_1]] (by rfl) rfl rfl (by (try simp only [List.map_toArray, List.map_cons, List.map_nil]); first | done | rfl | (simp only [List.length_drop, List.length_take]; rfl)) ?_
     with_reducible refine (laws_toArray.calls k _ _ l0_0 _ _ l0_1 t312 t315 _ ?side1 ?side2 ?side3 ?side4 A19.out).mono ?_
     (case side1 => exact cU (Kd.C_below HR0_0.out HB.out))
     (case side2 => exact HC0_0.out)
     (case side3 => exact cU (Kd.C_below HR0_1.out HB.out))
     (case side4 => exact HC0_1.out)
     rintro e w35 ⟨v313, v316, rfl, ho0, ho1, hb⟩
     refine ⟨_, rfl, ?_⟩
     have HO314 := Aside0.mk (Kd.R_lower ho0 (below_size (bS3 HB.out GE308.out GE309.out GE331.out)))
     have HO317 := Aside0.mk (Kd.R_lower ho1 (below_size (bS3 HB.out GE308.out GE309.out GE331.out)))
     replace BK308 := Aside0.mk (blk_below (g := gb308) (o := .cells #[.slice A0_0 l0_0.length c0_0, .slice A0_1 l0_1.length c0_1] 24 (0, 0)) (kU BK308.out) hb)
     replace BK309 := Aside0.mk (blk_below (g := gb309) (o := .cells #[.slice A1_0 l1_0.length c1_0, .slice A1_1 l1_1.length c1_1] 24 (0, 0)) (kU BK309.out) hb)
     replace BK331 := Aside0.mk (blk_below (g := gb331) (o := .cells #[.slice none 0 0, .slice none 0 0] 26 (0, 0)) (kU BK331.out) hb)
     replace HB := Aside0.mk (below_step (bS3 HB.out GE308.out GE309.out GE331.out) hb)
     (try clear hb)
     (try clear hb2)
     (try clear hk)
     (try clear hi)
     (try clear ho0)
     (try clear ho1)
     refine hK.out _ _ ⟨(blk_cell BK308.out 0).trans rfl, (blk_cell BK308.out 1).trans rfl, (blk_cell BK309.out 0).trans rfl, (blk_cell BK309.out 1).trans rfl⟩ (fun hHeld => ?_)
     clear hK K
     refine norm_ (a' := ?_) ?_ ?_
     rotate_left
     ·
      show Act.put _ (some 29) _ = _
      simp only [Act.put, List.setIfInBounds_toArray, List.set_cons_zero, List.set_cons_succ, i64_w, i32_w]
      rfl
     refine one_ (i := 3) (N := some 31) #[true, true, true, true, false, false, false, false, true, false, false] rfl rfl (one_of HT_.out (by kernel_rfl)) (by decide) (fun K hK => ?_)
     refine goes_ Try.func17 (by kernel_rfl) rfl #[.agg #[.slice A1_0 l1_0.length c1_0, .slice A1_1 l1_1.length c1_1]] (by rfl) rfl rfl (by (try simp only [List.map_toArray, List.map_cons, List.map_nil]); first | done | rfl | (simp only [List.length_drop, List.length_take]; rfl)) ?_
     with_reducible refine (laws_toArray.calls k _ _ l1_0 _ _ l1_1 t318 t321 _ ?side1 ?side2 ?side3 ?side4 A20.out).mono ?_
     (case side1 => exact cU (Kd.C_below HR1_0.out HB.out))
     (case side2 => exact HC1_0.out)
     (case side3 => exact cU (Kd.C_below HR1_1.out HB.out))
     (case side4 => exact HC1_1.out)
     rintro e w36 ⟨v319, v322, rfl, ho0, ho1, hb⟩
     refine ⟨_, rfl, ?_⟩
     have HO320 := Aside0.mk (Kd.R_lower (Kd.R_new' (Kd.R_new' ho0 (Kd.R_lt (RU HO314.out))) (Kd.R_lt (RU HO317.out))) (below_size (bS3 HB.out GE308.out GE309.out GE331.out)))
     have HO323 := Aside0.mk (Kd.R_lower (Kd.R_new' (Kd.R_new' ho1 (Kd.R_lt (RU HO314.out))) (Kd.R_lt (RU HO317.out))) (below_size (bS3 HB.out GE308.out GE309.out GE331.out)))
     replace HO314 := Aside0.mk (Kd.R_mono (Kd.R_told (Kd.R_told (Kd.R_old (RU HO314.out) hb) (Kd.R_base ho0)) (Kd.R_base ho1)) (fun _ h_ => h_.1))
     replace HO317 := Aside0.mk (Kd.R_mono (Kd.R_told (Kd.R_told (Kd.R_old (RU HO317.out) hb) (Kd.R_base ho0)) (Kd.R_base ho1)) (fun _ h_ => h_.1))
     replace BK308 := Aside0.mk (blk_below (g := gb308) (o := .cells #[.slice A0_0 l0_0.length c0_0, .slice A0_1 l0_1.length c0_1] 24 (0, 0)) (kU BK308.out) hb)
     replace BK309 := Aside0.mk (blk_below (g := gb309) (o := .cells #[.slice A1_0 l1_0.length c1_0, .slice A1_1 l1_1.length c1_1] 24 (0, 0)) (kU BK309.out) hb)
     replace BK331 := Aside0.mk (blk_below (g := gb331) (o := .cells #[.slice none 0 0, .slice none 0 0] 26 (0, 0)) (kU BK331.out) hb)
     replace HB := Aside0.mk (below_step (bS3 HB.out GE308.out GE309.out GE331.out) hb)
     (try clear hb)
     (try clear hb2)
     (try clear hk)
     (try clear hi)
     (try clear ho0)
     (try clear ho1)
     obtain ⟨Ao37, co37, eo37⟩ := Kd.R_slice HO314.out
     (first | subst eo37 | (injection eo37 with f1_ f2_ f3_; have f4_ := f1_.symm; have f5_ := f3_.symm; clear f1_ f2_ f3_; subst f4_; subst f5_))
     obtain ⟨Ao38, co38, eo38⟩ := Kd.R_slice HO317.out
     (first | subst eo38 | (injection eo38 with f1_ f2_ f3_; have f4_ := f1_.symm; have f5_ := f3_.symm; clear f1_ f2_ f3_; subst f4_; subst f5_))
     obtain ⟨Ao39, co39, eo39⟩ := Kd.R_slice HO320.out
     (first | subst eo39 | (injection eo39 with f1_ f2_ f3_; have f4_ := f1_.symm; have f5_ := f3_.symm; clear f1_ f2_ f3_; subst f4_; subst f5_))
     obtain ⟨Ao40, co40, eo40⟩ := Kd.R_slice HO323.out
     (first | subst eo40 | (injection eo40 with f1_ f2_ f3_; have f4_ := f1_.symm; have f5_ := f3_.symm; clear f1_ f2_ f3_; subst f4_; subst f5_))
     refine hK.out _ _ ⟨(blk_cell BK308.out 0).trans rfl, (blk_cell BK308.out 1).trans rfl, (blk_cell BK309.out 0).trans rfl, (blk_cell BK309.out 1).trans rfl⟩ (fun hHeld => ?_)
     clear hK K
     refine norm_ (a' := ?_) ?_ ?_
     rotate_left
     ·
      show Act.put _ (some 31) _ = _
      simp only [Act.put, List.setIfInBounds_toArray, List.set_cons_zero, List.set_cons_succ, i64_w, i32_w]
      rfl
     refine one_ (i := 4) (N := some 32) #[true, true, true, true, true, false, false, false, true, false, false] rfl rfl (one_of HT_.out (by kernel_rfl)) (by decide) (fun K hK => ?_)
     refine goes_ Try.func39 (by kernel_rfl) rfl #[.agg #[.slice Ao37 t312.length co37, .slice Ao38 t315.length co38], .agg #[.slice Ao39 t318.length co39, .slice Ao40 t321.length co40]] (by rfl) rfl rfl (by (try simp only [List.map_toArray, List.map_cons, List.map_nil]); first | done | rfl | (simp only [List.length_drop, List.length_take]; rfl)) ?_
     with_reducible refine (spec_Rotate.calls k _ _ t312 _ _ t315 _ _ t318 _ _ t321 t324 t327 t330 _ ?side1 ?side2 ?side3 ?side4 ?side5 ?side6 ?side7 ?side8 A21.out).mono ?_
     (case side1 => exact cU (Kd.R_reads' HO314.out).2.2)
     (case side2 => exact (Kd.R_reads' HO314.out).2.1)
     (case side3 => exact cU (Kd.R_reads' HO317.out).2.2)
     (case side4 => exact (Kd.R_reads' HO317.out).2.1)
     (case side5 => exact cU (Kd.R_reads' HO320.out).2.2)
     (case side6 => exact (Kd.R_reads' HO320.out).2.1)
     (case side7 => exact cU (Kd.R_reads' HO323.out).2.2)
     (case side8 => exact (Kd.R_reads' HO323.out).2.1)
     rintro e w41 ⟨v325, v328, rfl, ho0, ho1, hb⟩
     refine ⟨_, rfl, ?_⟩
     have HO326 := Aside0.mk (Kd.R_lower (Kd.R_new' (Kd.R_new' (Kd.R_new' (Kd.R_new' ho0 (Kd.R_lt (RU HO314.out))) (Kd.R_lt (RU HO317.out))) (Kd.R_lt (RU HO320.out))) (Kd.R_lt (RU HO323.out))) (below_size (bS3 HB.out GE308.out GE309.out GE331.out)))
     have HO329 := Aside0.mk (Kd.R_lower (Kd.R_new' (Kd.R_new' (Kd.R_new' (Kd.R_new' ho1 (Kd.R_lt (RU HO314.out))) (Kd.R_lt (RU HO317.out))) (Kd.R_lt (RU HO320.out))) (Kd.R_lt (RU HO323.out))) (below_size (bS3 HB.out GE308.out GE309.out GE331.out)))
     replace HO314 := Aside0.mk (Kd.R_mono (Kd.R_told (Kd.R_told (Kd.R_old (RU HO314.out) hb) (Kd.R_base ho0)) (Kd.R_base ho1)) (fun _ h_ => h_.1))
     replace HO317 := Aside0.mk (Kd.R_mono (Kd.R_told (Kd.R_told (Kd.R_old (RU HO317.out) hb) (Kd.R_base ho0)) (Kd.R_base ho1)) (fun _ h_ => h_.1))
     replace HO320 := Aside0.mk (Kd.R_mono (Kd.R_told (Kd.R_told (Kd.R_old (RU HO320.out) hb) (Kd.R_base ho0)) (Kd.R_base ho1)) (fun _ h_ => h_.1))
     replace HO323 := Aside0.mk (Kd.R_mono (Kd.R_told (Kd.R_told (Kd.R_old (RU HO323.out) hb) (Kd.R_base ho0)) (Kd.R_base ho1)) (fun _ h_ => h_.1))
     replace BK308 := Aside0.mk (blk_below (g := gb308) (o := .cells #[.slice A0_0 l0_0.length c0_0, .slice A0_1 l0_1.length c0_1] 24 (0, 0)) (kU BK308.out) hb)
     replace BK309 := Aside0.mk (blk_below (g := gb309) (o := .cells #[.slice A1_0 l1_0.length c1_0, .slice A1_1 l1_1.length c1_1] 24 (0, 0)) (kU BK309.out) hb)
     replace BK331 := Aside0.mk (blk_below (g := gb331) (o := .cells #[.slice none 0 0, .slice none 0 0] 26 (0, 0)) (kU BK331.out) hb)
     replace HB := Aside0.mk (below_step (bS3 HB.out GE308.out GE309.out GE331.out) hb)
     (try clear hb)
     (try clear hb2)
     (try clear hk)
     (try clear hi)
     (try clear ho0)
     (try clear ho1)
     refine hK.out _ _ ⟨(blk_cell BK308.out 0).trans rfl, (blk_cell BK308.out 1).trans rfl, (blk_cell BK309.out 0).trans rfl, (blk_cell BK309.out 1).trans rfl⟩ (fun hHeld => ?_)
     clear hK K
     refine norm_ (a' := ?_) ?_ ?_
     rotate_left
     ·
      show Act.put _ (some 32) _ = _
      simp only [Act.put, List.setIfInBounds_toArray, List.set_cons_zero, List.set_cons_succ, i64_w, i32_w]
      rfl
     refine pure_ (i := 5) (N := some 27) (v := ?_) (a' := ?_) #[true, true, true, true, true, true, false, false, true, false, false] rfl rfl (any_of HT_.out (by kernel_rfl)) (fun _ _ _ h => h) (Or.inl ⟨by rfl, ?_⟩) ?_ ?_
     rotate_left
     ·
      intro w'
      go_simp
      with_reducible rfl
     rotate_left
     ·
      simp only [Act.put, List.setIfInBounds_toArray, List.set_cons_zero, List.set_cons_succ, i64_w, i32_w]
      rfl
     refine pure_ (i := 6) (N := some 33) (v := ?_) (a' := ?_) #[true, true, true, true, true, true, true, false, true, false, false] rfl rfl (any_of HT_.out (by kernel_rfl)) (fun _ _ _ h => h) (Or.inl ⟨by rfl, ?_⟩) ?_ ?_
     rotate_left
     ·
      intro w'
      go_simp
      with_reducible rfl
     rotate_left
     ·
      simp only [Act.put, List.setIfInBounds_toArray, List.set_cons_zero, List.set_cons_succ, i64_w, i32_w]
      rfl
     refine pure_ (i := 7) (N := some 34) (v := ?_) (a' := ?_) #[true, true, true, true, true, true, true, true, true, false, false] rfl rfl (any_of HT_.out (by kernel_rfl)) (fun _ _ _ h => h) (Or.inl ⟨by rfl, ?_⟩) ?_ ?_
     rotate_left
     ·
      intro w'
      go_simp
      with_reducible rfl
     rotate_left
     ·
      simp only [Act.put, List.setIfInBounds_toArray, List.set_cons_zero, List.set_cons_succ, i64_w, i32_w]
      rfl
     exact norm_ (by simp only [putAll, Act.put, List.setIfInBounds_toArray, List.set_cons_zero, List.set_cons_succ]) (hCont (.slice Ao37 t312.length co37, .slice Ao38 t315.length co38, .slice Ao39 t318.length co39, .slice Ao40 t321.length co40, v325, v328, gb331) _ ⟨hHeld, (by (with_reducible repeat (first | apply Kd.R_alloc | apply Kd.R_drewN | apply Kd.R_drew)); exact Kd.R_mono HO314.out (fun _ hk => ⟨hk.1.1.1.1, ⟨hk.1.1.1.2, ⟨hk.1.1.2, ⟨hk.1.2, hk.2⟩⟩⟩⟩)), (by (with_reducible repeat (first | apply Kd.R_alloc | apply Kd.R_drewN | apply Kd.R_drew)); exact Kd.R_mono HO317.out (fun _ hk => ⟨hk.1.1.1.1, ⟨hk.1.1.1.2, ⟨hk.1.1.2, ⟨hk.1.2, hk.2⟩⟩⟩⟩)), (by (with_reducible repeat (first | apply Kd.R_alloc | apply Kd.R_drewN | apply Kd.R_drew)); exact Kd.R_mono HO320.out (fun _ hk => ⟨hk.1.1.1.2, ⟨hk.1.1.2, ⟨hk.1.1.1.1, ⟨hk.1.2, hk.2⟩⟩⟩⟩)), (by (with_reducible repeat (first | apply Kd.R_alloc | apply Kd.R_drewN | apply Kd.R_drew)); exact Kd.R_mono HO323.out (fun _ hk => ⟨hk.1.1.1.2, ⟨hk.1.1.2, ⟨hk.1.1.1.1, ⟨hk.1.2, hk.2⟩⟩⟩⟩)), (by (with_reducible repeat (first | apply Kd.R_alloc | apply Kd.R_drewN | apply Kd.R_drew)); exact Kd.R_mono HO326.out (fun _ hk => ⟨hk.1.1.1.2, ⟨hk.1.1.2, ⟨hk.1.2, ⟨hk.2, hk.1.1.1.1⟩⟩⟩⟩)), (by (with_reducible repeat (first | apply Kd.R_alloc | apply Kd.R_drewN | apply Kd.R_drew)); exact Kd.R_mono HO329.out (fun _ hk => ⟨hk.1.1.1.2, ⟨hk.1.1.2, ⟨hk.1.2, ⟨hk.2, hk.1.1.1.1⟩⟩⟩⟩)), (kU BK308.out), (kU BK309.out), (kU BK331.out), GW331.out, GE331.out, NB308_331.out, NB331_308.out, NB309_331.out, NB331_309.out, (bS3 HB.out GE308.out GE309.out GE331.out)⟩)
   rintro ⟨v313, v316, v319, v322, v325, v328, gb331⟩ w42 ⟨hS_, h0_, h1_, h2_, h3_, h4_, h5_, h6_, h7_, h8_, h9_, h10_, h11_, h12_, h13_, h14_, h15_⟩
   have n0_ : Aside0 (Kd.R (Kd.int .i64) 3 w42 w.heap.size (fun k_ => some k_ ≠ (v316 : Value).ownBlock ∧ some k_ ≠ (v319 : Value).ownBlock ∧ some k_ ≠ (v322 : Value).ownBlock ∧ some k_ ≠ (v325 : Value).ownBlock ∧ some k_ ≠ (v328 : Value).ownBlock) v313 t312) := ⟨h0_⟩
   have n1_ : Aside0 (Kd.R (Kd.int .i64) 3 w42 w.heap.size (fun k_ => some k_ ≠ (v313 : Value).ownBlock ∧ some k_ ≠ (v319 : Value).ownBlock ∧ some k_ ≠ (v322 : Value).ownBlock ∧ some k_ ≠ (v325 : Value).ownBlock ∧ some k_ ≠ (v328 : Value).ownBlock) v316 t315) := ⟨h1_⟩
   have n2_ : Aside0 (Kd.R (Kd.int .i64) 3 w42 w.heap.size (fun k_ => some k_ ≠ (v313 : Value).ownBlock ∧ some k_ ≠ (v316 : Value).ownBlock ∧ some k_ ≠ (v322 : Value).ownBlock ∧ some k_ ≠ (v325 : Value).ownBlock ∧ some k_ ≠ (v328 : Value).ownBlock) v319 t318) := ⟨h2_⟩
   have n3_ : Aside0 (Kd.R (Kd.int .i64) 3 w42 w.heap.size (fun k_ => some k_ ≠ (v313 : Value).ownBlock ∧ some k_ ≠ (v316 : Value).ownBlock ∧ some k_ ≠ (v319 : Value).ownBlock ∧ some k_ ≠ (v325 : Value).ownBlock ∧ some k_ ≠ (v328 : Value).ownBlock) v322 t321) := ⟨h3_⟩
   have n4_ : Aside0 (Kd.R (Kd.int .i64) 3 w42 w.heap.size (fun k_ => some k_ ≠ (v313 : Value).ownBlock ∧ some k_ ≠ (v316 : Value).ownBlock ∧ some k_ ≠ (v319 : Value).ownBlock ∧ some k_ ≠ (v322 : Value).ownBlock ∧ some k_ ≠ (v328 : Value).ownBlock) v325 t324) := ⟨h4_⟩
   have n5_ : Aside0 (Kd.R (Kd.int .i64) 3 w42 w.heap.size (fun k_ => some k_ ≠ (v313 : Value).ownBlock ∧ some k_ ≠ (v316 : Value).ownBlock ∧ some k_ ≠ (v319 : Value).ownBlock ∧ some k_ ≠ (v322 : Value).ownBlock ∧ some k_ ≠ (v325 : Value).ownBlock) v328 t327) := ⟨h5_⟩
   have n6_ : Aside0 (w42.heap[gb308]? = some (.cells #[.slice A0_0 l0_0.length c0_0, .slice A0_1 l0_1.length c0_1] 24 (0, 0))) := ⟨h6_⟩
   have n7_ : Aside0 (w42.heap[gb309]? = some (.cells #[.slice A1_0 l1_0.length c1_0, .slice A1_1 l1_1.length c1_1] 24 (0, 0))) := ⟨h7_⟩
   have n8_ : Aside0 (w42.heap[gb331]? = some (.cells #[.slice none 0 0, .slice none 0 0] 26 (0, 0))) := ⟨h8_⟩
   have n9_ : Aside0 (w.heap.size ≤ gb331) := ⟨h9_⟩
   have n10_ : Aside0 (w.heap.size ≤ gb331) := ⟨h10_⟩
   have n11_ : Aside0 (gb308 ≠ gb331) := ⟨h11_⟩
   have n12_ : Aside0 (gb331 ≠ gb308) := ⟨h12_⟩
   have n13_ : Aside0 (gb309 ≠ gb331) := ⟨h13_⟩
   have n14_ : Aside0 (gb331 ≠ gb309) := ⟨h14_⟩
   have n15_ : Aside0 (Below w.heap.size w w42) := ⟨h15_⟩
   clear BK308 BK309 HB
   clear h0_ h1_ h2_ h3_ h4_ h5_ h6_ h7_ h8_ h9_ h10_ h11_ h12_ h13_ h14_ h15_
   have HO314 := n0_
   have HO317 := n1_
   have HO320 := n2_
   have HO323 := n3_
   have HO326 := n4_
   have HO329 := n5_
   have BK308 := n6_
   have BK309 := n7_
   have BK331 := n8_
   have GW331 := n9_
   have GE331 := n10_
   have NB308_331 := n11_
   have NB331_308 := n12_
   have NB309_331 := n13_
   have NB331_309 := n14_
   have HB := n15_
   clear n0_ n1_ n2_ n3_ n4_ n5_ n6_ n7_ n8_ n9_ n10_ n11_ n12_ n13_ n14_ n15_
   have hHeld : w42.cell? ⟨gb308, 0, none⟩ = some (.slice A0_0 l0_0.length c0_0) ∧ w42.cell? ⟨gb308, 1, none⟩ = some (.slice A0_1 l0_1.length c0_1) ∧ w42.cell? ⟨gb309, 0, none⟩ = some (.slice A1_0 l1_0.length c1_0) ∧ w42.cell? ⟨gb309, 1, none⟩ = some (.slice A1_1 l1_1.length c1_1) := hS_
   obtain ⟨Ao43, co43, eo43⟩ := Kd.R_slice HO326.out
   (first | subst eo43 | (injection eo43 with f1_ f2_ f3_; have f4_ := f1_.symm; have f5_ := f3_.symm; clear f1_ f2_ f3_; subst f4_; subst f5_))
   obtain ⟨Ao45, co45, eo45⟩ := Kd.R_slice HO329.out
   (first | subst eo45 | (injection eo45 with f1_ f2_ f3_; have f4_ := f1_.symm; have f5_ := f3_.symm; clear f1_ f2_ f3_; subst f4_; subst f5_))
   refine norm_ (a' := ?_) ?_ ?_
   rotate_left
   ·
    simp only [putAll, Act.put, List.setIfInBounds_toArray, List.set_cons_zero, List.set_cons_succ]
    rfl
   refine one_ (i := 9) (N := none) #[true, true, true, true, true, true, true, true, true, true, false] rfl rfl (one_of HT_.out (by kernel_rfl)) (by decide) (fun K hK => ?_)
   have hs44 : w42.cell? ⟨gb331, 0, none⟩ = some (.slice none 0 0) := (blk_cell BK331.out 0).trans rfl
   have hfs44 := blk_frozen BK331.out 0
   have hns44_0 := NB308_331.out
   have hns44_1 := NB309_331.out
   have hms44_0 := NB331_308.out
   have hms44_1 := NB331_309.out
   have hs46 : w42.cell? ⟨gb331, 1, none⟩ = some (.slice none 0 0) := (blk_cell BK331.out 1).trans rfl
   have hfs46 := blk_frozen BK331.out 1
   have hns46_0 := NB308_331.out
   have hns46_1 := NB309_331.out
   have hms46_0 := NB331_308.out
   have hms46_1 := NB331_309.out
   refine skip_ (w1 := ?_) (by rfl) rfl ?_ ?_
   rotate_left
   ·
    go_simp
    rfl
   refine hK.out _ _ ⟨((cell_far (p := ⟨gb331, _, none⟩) NB308_331.out _).trans (((cell_far (p := ⟨gb331, _, none⟩) NB308_331.out _).trans (hHeld.1)))), ((cell_far (p := ⟨gb331, _, none⟩) NB308_331.out _).trans (((cell_far (p := ⟨gb331, _, none⟩) NB308_331.out _).trans (hHeld.2.1)))), ((cell_far (p := ⟨gb331, _, none⟩) NB309_331.out _).trans (((cell_far (p := ⟨gb331, _, none⟩) NB309_331.out _).trans (hHeld.2.2.1)))), ((cell_far (p := ⟨gb331, _, none⟩) NB309_331.out _).trans (((cell_far (p := ⟨gb331, _, none⟩) NB309_331.out _).trans (hHeld.2.2.2))))⟩ (fun hHeld => ?_)
   clear hK K
   refine pure_ (i := 10) (N := some 7) (v := ?_) (a' := ?_) #[true, true, true, true, true, true, true, true, true, true, true] rfl rfl (any_of HT_.out (by kernel_rfl)) (fun _ _ _ h => h) (Or.inl ⟨by rfl, ?_⟩) ?_ ?_
   rotate_left
   ·
    intro w'
    go_simp
    with_reducible rfl
   rotate_left
   ·
    simp only [Act.put, List.setIfInBounds_toArray, List.set_cons_zero, List.set_cons_succ, i64_w, i32_w]
    rfl
   refine done_ (done_of HT_.out (by kernel_rfl)) ?_
   have hnb47 := NB308_331.out
   have hnc47 := NB331_308.out
   have hcz48_0 : w42.cell? ⟨gb308, 0, none⟩ = some (.slice A0_0 l0_0.length c0_0) := (blk_cell BK308.out 0).trans rfl
   have hcz48_1 : w42.cell? ⟨gb308, 1, none⟩ = some (.slice A0_1 l0_1.length c0_1) := (blk_cell BK308.out 1).trans rfl
   have hfz48_0 := blk_frozen BK308.out 0
   have hfz48_1 := blk_frozen BK308.out 1
   go_upto_region 12 with (first | ((with_reducible refine gate_callee (f := 17) rfl ?_); refine goesL_ (some 36) rfl rfl Try.func17 (by kernel_rfl) rfl #[.agg #[.slice A0_0 l0_0.length c0_0, .slice A0_1 l0_1.length c0_1]] rfl (by (try simp only [List.map_toArray, List.map_cons, List.map_nil]); first | done | rfl | (simp only [List.length_drop, List.length_take]; rfl)) ?_; (with_reducible refine (laws_toArray.calls k _ _ l0_0 _ _ l0_1 t332 t335 _ ?side1 ?side2 ?side3 ?side4 A22.out).mono ?_); (case side1 => exact Kd.C_below HR0_0.out (bS3 HB.out GE308.out GE309.out GE331.out)); (case side2 => exact HC0_0.out); (case side3 => exact Kd.C_below HR0_1.out (bS3 HB.out GE308.out GE309.out GE331.out)); (case side4 => exact HC0_1.out); rintro e w49 ⟨v333, v336, rfl, ho0, ho1, hb⟩; refine ⟨_, rfl, ?_⟩; have HO334 := Aside0.mk (Kd.R_lower (Kd.R_new' (Kd.R_new' (Kd.R_new' (Kd.R_new' (Kd.R_new' (Kd.R_new' ho0 (Kd.R_lt (by (with_reducible repeat (first | apply Kd.R_alloc | apply Kd.R_drewN | apply Kd.R_drew)); exact (far2 HO314.out BK331.out)))) (Kd.R_lt (by (with_reducible repeat (first | apply Kd.R_alloc | apply Kd.R_drewN | apply Kd.R_drew)); exact (far2 HO317.out BK331.out)))) (Kd.R_lt (by (with_reducible repeat (first | apply Kd.R_alloc | apply Kd.R_drewN | apply Kd.R_drew)); exact (far2 HO320.out BK331.out)))) (Kd.R_lt (by (with_reducible repeat (first | apply Kd.R_alloc | apply Kd.R_drewN | apply Kd.R_drew)); exact (far2 HO323.out BK331.out)))) (Kd.R_lt (by (with_reducible repeat (first | apply Kd.R_alloc | apply Kd.R_drewN | apply Kd.R_drew)); exact (far2 HO326.out BK331.out)))) (Kd.R_lt (by (with_reducible repeat (first | apply Kd.R_alloc | apply Kd.R_drewN | apply Kd.R_drew)); exact (far2 HO329.out BK331.out)))) (below_size (bS3 HB.out GE308.out GE309.out GE331.out))); have HO337 := Aside0.mk (Kd.R_lower (Kd.R_new' (Kd.R_new' (Kd.R_new' (Kd.R_new' (Kd.R_new' (Kd.R_new' ho1 (Kd.R_lt (by (with_reducible repeat (first | apply Kd.R_alloc | apply Kd.R_drewN | apply Kd.R_drew)); exact (far2 HO314.out BK331.out)))) (Kd.R_lt (by (with_reducible repeat (first | apply Kd.R_alloc | apply Kd.R_drewN | apply Kd.R_drew)); exact (far2 HO317.out BK331.out)))) (Kd.R_lt (by (with_reducible repeat (first | apply Kd.R_alloc | apply Kd.R_drewN | apply Kd.R_drew)); exact (far2 HO320.out BK331.out)))) (Kd.R_lt (by (with_reducible repeat (first | apply Kd.R_alloc | apply Kd.R_drewN | apply Kd.R_drew)); exact (far2 HO323.out BK331.out)))) (Kd.R_lt (by (with_reducible repeat (first | apply Kd.R_alloc | apply Kd.R_drewN | apply Kd.R_drew)); exact (far2 HO326.out BK331.out)))) (Kd.R_lt (by (with_reducible repeat (first | apply Kd.R_alloc | apply Kd.R_drewN | apply Kd.R_drew)); exact (far2 HO329.out BK331.out)))) (below_size (bS3 HB.out GE308.out GE309.out GE331.out))); replace HO314 := Aside0.mk (Kd.R_mono (Kd.R_told (Kd.R_told (Kd.R_old (by (with_reducible repeat (first | apply Kd.R_alloc | apply Kd.R_drewN | apply Kd.R_drew)); exact (far2 HO314.out BK331.out)) hb) (Kd.R_base ho0)) (Kd.R_base ho1)) (fun _ h_ => h_.1)); replace HO317 := Aside0.mk (Kd.R_mono (Kd.R_told (Kd.R_told (Kd.R_old (by (with_reducible repeat (first | apply Kd.R_alloc | apply Kd.R_drewN | apply Kd.R_drew)); exact (far2 HO317.out BK331.out)) hb) (Kd.R_base ho0)) (Kd.R_base ho1)) (fun _ h_ => h_.1)); replace HO320 := Aside0.mk (Kd.R_mono (Kd.R_told (Kd.R_told (Kd.R_old (by (with_reducible repeat (first | apply Kd.R_alloc | apply Kd.R_drewN | apply Kd.R_drew)); exact (far2 HO320.out BK331.out)) hb) (Kd.R_base ho0)) (Kd.R_base ho1)) (fun _ h_ => h_.1)); replace HO323 := Aside0.mk (Kd.R_mono (Kd.R_told (Kd.R_told (Kd.R_old (by (with_reducible repeat (first | apply Kd.R_alloc | apply Kd.R_drewN | apply Kd.R_drew)); exact (far2 HO323.out BK331.out)) hb) (Kd.R_base ho0)) (Kd.R_base ho1)) (fun _ h_ => h_.1)); replace HO326 := Aside0.mk (Kd.R_mono (Kd.R_told (Kd.R_told (Kd.R_old (by (with_reducible repeat (first | apply Kd.R_alloc | apply Kd.R_drewN | apply Kd.R_drew)); exact (far2 HO326.out BK331.out)) hb) (Kd.R_base ho0)) (Kd.R_base ho1)) (fun _ h_ => h_.1)); replace HO329 := Aside0.mk (Kd.R_mono (Kd.R_told (Kd.R_told (Kd.R_old (by (with_reducible repeat (first | apply Kd.R_alloc | apply Kd.R_drewN | apply Kd.R_drew)); exact (far2 HO329.out BK331.out)) hb) (Kd.R_base ho0)) (Kd.R_base ho1)) (fun _ h_ => h_.1)); replace BK308 := Aside0.mk (blk_below (g := gb308) (o := .cells #[.slice A0_0 l0_0.length c0_0, .slice A0_1 l0_1.length c0_1] 24 (0, 0)) (by (with_reducible repeat (first | refine blk_drewN ?_ _ | refine blk_drew ?_ | refine blk_alloc ?_ _)); refine blk_far ?_ NB308_331.out _; (with_reducible repeat (first | refine blk_drewN ?_ _ | refine blk_drew ?_ | refine blk_alloc ?_ _)); refine blk_far ?_ NB308_331.out _; (with_reducible repeat (first | refine blk_drewN ?_ _ | refine blk_drew ?_ | refine blk_alloc ?_ _)); exact BK308.out) hb); replace BK309 := Aside0.mk (blk_below (g := gb309) (o := .cells #[.slice A1_0 l1_0.length c1_0, .slice A1_1 l1_1.length c1_1] 24 (0, 0)) (by (with_reducible repeat (first | refine blk_drewN ?_ _ | refine blk_drew ?_ | refine blk_alloc ?_ _)); refine blk_far ?_ NB309_331.out _; (with_reducible repeat (first | refine blk_drewN ?_ _ | refine blk_drew ?_ | refine blk_alloc ?_ _)); refine blk_far ?_ NB309_331.out _; (with_reducible repeat (first | refine blk_drewN ?_ _ | refine blk_drew ?_ | refine blk_alloc ?_ _)); exact BK309.out) hb); replace BK331 := Aside0.mk (blk_below (g := gb331) (o := .cells #[.slice Ao43 t324.length co43, .slice Ao45 t327.length co45] 26 (0, 0)) (by (with_reducible repeat (first | refine blk_drewN ?_ _ | refine blk_drew ?_ | refine blk_alloc ?_ _)); refine blk_put (cs := #[.slice Ao43 t324.length co43, .slice none 0 0]) ?_ 1 _ rfl; (with_reducible repeat (first | refine blk_drewN ?_ _ | refine blk_drew ?_ | refine blk_alloc ?_ _)); refine blk_put (cs := #[.slice none 0 0, .slice none 0 0]) ?_ 0 _ rfl; (with_reducible repeat (first | refine blk_drewN ?_ _ | refine blk_drew ?_ | refine blk_alloc ?_ _)); exact BK331.out) hb); replace HB := Aside0.mk (below_step (bS3 HB.out GE308.out GE309.out GE331.out) hb); (try clear hb); (try clear hb2); (try clear hk); (try clear hi); (try clear ho0); (try clear ho1)) | ((with_reducible refine gate_dst (N := 8) rfl ?_); refine box_event ?hg (N := 8) ?hd (cs := #[.slice none 0 0, .slice none 0 0]) (t := 26) ?hr ?_; (case hd => rfl); (case hg => rfl); (case hr => first | (go_simp; done) | (go_simp; rfl)); intro gb338 hg w50 hbox hb; replace HO314 := Aside0.mk (Kd.R_below (RU HO314.out) hb); replace HO317 := Aside0.mk (Kd.R_below (RU HO317.out) hb); replace HO320 := Aside0.mk (Kd.R_below (RU HO320.out) hb); replace HO323 := Aside0.mk (Kd.R_below (RU HO323.out) hb); replace HO326 := Aside0.mk (Kd.R_below (RU HO326.out) hb); replace HO329 := Aside0.mk (Kd.R_below (RU HO329.out) hb); replace HO334 := Aside0.mk (Kd.R_below (RU HO334.out) hb); replace HO337 := Aside0.mk (Kd.R_below (RU HO337.out) hb); have BK338 := Aside0.mk (hbox); have GW338 := Aside0.mk ((by rw [hg]; exact (below_size (bS3 HB.out GE308.out GE309.out GE331.out)) : w.heap.size ≤ gb338)); have GE338 := Aside0.mk ((by rw [hg]; exact (below_size (bS3 HB.out GE308.out GE309.out GE331.out)) : w.heap.size ≤ gb338)); replace HB := Aside0.mk (below_step (bS3 HB.out GE308.out GE309.out GE331.out) hb); have NB308_338 := Aside0.mk ((by rw [hg]; exact Nat.ne_of_lt (blk_lt (g := gb308) (o := .cells #[.slice A0_0 l0_0.length c0_0, .slice A0_1 l0_1.length c0_1] 24 (0, 0)) (kU BK308.out)) : gb308 ≠ gb338)); have NB338_308 := Aside0.mk ((by rw [hg]; exact Nat.ne_of_gt (blk_lt (g := gb308) (o := .cells #[.slice A0_0 l0_0.length c0_0, .slice A0_1 l0_1.length c0_1] 24 (0, 0)) (kU BK308.out)) : gb338 ≠ gb308)); replace BK308 := Aside0.mk (blk_below (g := gb308) (o := .cells #[.slice A0_0 l0_0.length c0_0, .slice A0_1 l0_1.length c0_1] 24 (0, 0)) (kU BK308.out) hb); have NB309_338 := Aside0.mk ((by rw [hg]; exact Nat.ne_of_lt (blk_lt (g := gb309) (o := .cells #[.slice A1_0 l1_0.length c1_0, .slice A1_1 l1_1.length c1_1] 24 (0, 0)) (kU BK309.out)) : gb309 ≠ gb338)); have NB338_309 := Aside0.mk ((by rw [hg]; exact Nat.ne_of_gt (blk_lt (g := gb309) (o := .cells #[.slice A1_0 l1_0.length c1_0, .slice A1_1 l1_1.length c1_1] 24 (0, 0)) (kU BK309.out)) : gb338 ≠ gb309)); replace BK309 := Aside0.mk (blk_below (g := gb309) (o := .cells #[.slice A1_0 l1_0.length c1_0, .slice A1_1 l1_1.length c1_1] 24 (0, 0)) (kU BK309.out) hb); have NB331_338 := Aside0.mk ((by rw [hg]; exact Nat.ne_of_lt (blk_lt (g := gb331) (o := .cells #[.slice Ao43 t324.length co43, .slice Ao45 t327.length co45] 26 (0, 0)) (kU BK331.out)) : gb331 ≠ gb338)); have NB338_331 := Aside0.mk ((by rw [hg]; exact Nat.ne_of_gt (blk_lt (g := gb331) (o := .cells #[.slice Ao43 t324.length co43, .slice Ao45 t327.length co45] 26 (0, 0)) (kU BK331.out)) : gb338 ≠ gb331)); replace BK331 := Aside0.mk (blk_below (g := gb331) (o := .cells #[.slice Ao43 t324.length co43, .slice Ao45 t327.length co45] 26 (0, 0)) (kU BK331.out) hb); clear hb hbox hg; obtain ⟨Ao51, co51, eo51⟩ := Kd.R_slice HO334.out; subst eo51; have hnb52 := NB338_308.out; have hnc52 := NB308_338.out; have hnb53 := NB338_309.out; have hnc53 := NB309_338.out; have hnb54 := NB338_331.out; have hnc54 := NB331_338.out; have hcz55_0 : w50.cell? ⟨gb338, 0, none⟩ = some (.slice none 0 0) := (blk_cell BK338.out 0).trans rfl; have hcz55_1 : w50.cell? ⟨gb338, 1, none⟩ = some (.slice none 0 0) := (blk_cell BK338.out 1).trans rfl; have hfz55_0 := blk_frozen BK338.out 0; have hfz55_1 := blk_frozen BK338.out 1; obtain ⟨Ao56, co56, eo56⟩ := Kd.R_slice HO337.out; subst eo56; have hnb57 := NB309_331.out; have hnc57 := NB331_309.out; have hcz58_0 : w50.cell? ⟨gb309, 0, none⟩ = some (.slice A1_0 l1_0.length c1_0) := (blk_cell BK309.out 0).trans rfl; have hcz58_1 : w50.cell? ⟨gb309, 1, none⟩ = some (.slice A1_1 l1_1.length c1_1) := (blk_cell BK309.out 1).trans rfl; have hfz58_0 := blk_frozen BK309.out 0; have hfz58_1 := blk_frozen BK309.out 1) | ((with_reducible refine gate_callee (f := 17) rfl ?_); refine goesL_ (some 38) rfl rfl Try.func17 (by kernel_rfl) rfl #[.agg #[.slice A1_0 l1_0.length c1_0, .slice A1_1 l1_1.length c1_1]] rfl (by (try simp only [List.map_toArray, List.map_cons, List.map_nil]); first | done | rfl | (simp only [List.length_drop, List.length_take]; rfl)) ?_; (with_reducible refine (laws_toArray.calls k _ _ l1_0 _ _ l1_1 t339 t342 _ ?side1 ?side2 ?side3 ?side4 A23.out).mono ?_); (case side1 => exact Kd.C_below HR1_0.out (bS4 HB.out GE308.out GE309.out GE331.out GE338.out)); (case side2 => exact HC1_0.out); (case side3 => exact Kd.C_below HR1_1.out (bS4 HB.out GE308.out GE309.out GE331.out GE338.out)); (case side4 => exact HC1_1.out); rintro e w59 ⟨v340, v343, rfl, ho0, ho1, hb⟩; refine ⟨_, rfl, ?_⟩; have HO341 := Aside0.mk (Kd.R_lower (Kd.R_new' (Kd.R_new' (Kd.R_new' (Kd.R_new' (Kd.R_new' (Kd.R_new' (Kd.R_new' (Kd.R_new' ho0 (Kd.R_lt (by (with_reducible repeat (first | apply Kd.R_alloc | apply Kd.R_drewN | apply Kd.R_drew)); exact (far2 HO314.out BK338.out)))) (Kd.R_lt (by (with_reducible repeat (first | apply Kd.R_alloc | apply Kd.R_drewN | apply Kd.R_drew)); exact (far2 HO317.out BK338.out)))) (Kd.R_lt (by (with_reducible repeat (first | apply Kd.R_alloc | apply Kd.R_drewN | apply Kd.R_drew)); exact (far2 HO320.out BK338.out)))) (Kd.R_lt (by (with_reducible repeat (first | apply Kd.R_alloc | apply Kd.R_drewN | apply Kd.R_drew)); exact (far2 HO323.out BK338.out)))) (Kd.R_lt (by (with_reducible repeat (first | apply Kd.R_alloc | apply Kd.R_drewN | apply Kd.R_drew)); exact (far2 HO326.out BK338.out)))) (Kd.R_lt (by (with_reducible repeat (first | apply Kd.R_alloc | apply Kd.R_drewN | apply Kd.R_drew)); exact (far2 HO329.out BK338.out)))) (Kd.R_lt (by (with_reducible repeat (first | apply Kd.R_alloc | apply Kd.R_drewN | apply Kd.R_drew)); exact (far2 HO334.out BK338.out)))) (Kd.R_lt (by (with_reducible repeat (first | apply Kd.R_alloc | apply Kd.R_drewN | apply Kd.R_drew)); exact (far2 HO337.out BK338.out)))) (below_size (bS4 HB.out GE308.out GE309.out GE331.out GE338.out))); have HO344 := Aside0.mk (Kd.R_lower (Kd.R_new' (Kd.R_new' (Kd.R_new' (Kd.R_new' (Kd.R_new' (Kd.R_new' (Kd.R_new' (Kd.R_new' ho1 (Kd.R_lt (by (with_reducible repeat (first | apply Kd.R_alloc | apply Kd.R_drewN | apply Kd.R_drew)); exact (far2 HO314.out BK338.out)))) (Kd.R_lt (by (with_reducible repeat (first | apply Kd.R_alloc | apply Kd.R_drewN | apply Kd.R_drew)); exact (far2 HO317.out BK338.out)))) (Kd.R_lt (by (with_reducible repeat (first | apply Kd.R_alloc | apply Kd.R_drewN | apply Kd.R_drew)); exact (far2 HO320.out BK338.out)))) (Kd.R_lt (by (with_reducible repeat (first | apply Kd.R_alloc | apply Kd.R_drewN | apply Kd.R_drew)); exact (far2 HO323.out BK338.out)))) (Kd.R_lt (by (with_reducible repeat (first | apply Kd.R_alloc | apply Kd.R_drewN | apply Kd.R_drew)); exact (far2 HO326.out BK338.out)))) (Kd.R_lt (by (with_reducible repeat (first | apply Kd.R_alloc | apply Kd.R_drewN | apply Kd.R_drew)); exact (far2 HO329.out BK338.out)))) (Kd.R_lt (by (with_reducible repeat (first | apply Kd.R_alloc | apply Kd.R_drewN | apply Kd.R_drew)); exact (far2 HO334.out BK338.out)))) (Kd.R_lt (by (with_reducible repeat (first | apply Kd.R_alloc | apply Kd.R_drewN | apply Kd.R_drew)); exact (far2 HO337.out BK338.out)))) (below_size (bS4 HB.out GE308.out GE309.out GE331.out GE338.out))); replace HO314 := Aside0.mk (Kd.R_mono (Kd.R_told (Kd.R_told (Kd.R_old (by (with_reducible repeat (first | apply Kd.R_alloc | apply Kd.R_drewN | apply Kd.R_drew)); exact (far2 HO314.out BK338.out)) hb) (Kd.R_base ho0)) (Kd.R_base ho1)) (fun _ h_ => h_.1)); replace HO317 := Aside0.mk (Kd.R_mono (Kd.R_told (Kd.R_told (Kd.R_old (by (with_reducible repeat (first | apply Kd.R_alloc | apply Kd.R_drewN | apply Kd.R_drew)); exact (far2 HO317.out BK338.out)) hb) (Kd.R_base ho0)) (Kd.R_base ho1)) (fun _ h_ => h_.1)); replace HO320 := Aside0.mk (Kd.R_mono (Kd.R_told (Kd.R_told (Kd.R_old (by (with_reducible repeat (first | apply Kd.R_alloc | apply Kd.R_drewN | apply Kd.R_drew)); exact (far2 HO320.out BK338.out)) hb) (Kd.R_base ho0)) (Kd.R_base ho1)) (fun _ h_ => h_.1)); replace HO323 := Aside0.mk (Kd.R_mono (Kd.R_told (Kd.R_told (Kd.R_old (by (with_reducible repeat (first | apply Kd.R_alloc | apply Kd.R_drewN | apply Kd.R_drew)); exact (far2 HO323.out BK338.out)) hb) (Kd.R_base ho0)) (Kd.R_base ho1)) (fun _ h_ => h_.1)); replace HO326 := Aside0.mk (Kd.R_mono (Kd.R_told (Kd.R_told (Kd.R_old (by (with_reducible repeat (first | apply Kd.R_alloc | apply Kd.R_drewN | apply Kd.R_drew)); exact (far2 HO326.out BK338.out)) hb) (Kd.R_base ho0)) (Kd.R_base ho1)) (fun _ h_ => h_.1)); replace HO329 := Aside0.mk (Kd.R_mono (Kd.R_told (Kd.R_told (Kd.R_old (by (with_reducible repeat (first | apply Kd.R_alloc | apply Kd.R_drewN | apply Kd.R_drew)); exact (far2 HO329.out BK338.out)) hb) (Kd.R_base ho0)) (Kd.R_base ho1)) (fun _ h_ => h_.1)); replace HO334 := Aside0.mk (Kd.R_mono (Kd.R_told (Kd.R_told (Kd.R_old (by (with_reducible repeat (first | apply Kd.R_alloc | apply Kd.R_drewN | apply Kd.R_drew)); exact (far2 HO334.out BK338.out)) hb) (Kd.R_base ho0)) (Kd.R_base ho1)) (fun _ h_ => h_.1)); replace HO337 := Aside0.mk (Kd.R_mono (Kd.R_told (Kd.R_told (Kd.R_old (by (with_reducible repeat (first | apply Kd.R_alloc | apply Kd.R_drewN | apply Kd.R_drew)); exact (far2 HO337.out BK338.out)) hb) (Kd.R_base ho0)) (Kd.R_base ho1)) (fun _ h_ => h_.1)); replace BK308 := Aside0.mk (blk_below (g := gb308) (o := .cells #[.slice A0_0 l0_0.length c0_0, .slice A0_1 l0_1.length c0_1] 24 (0, 0)) (by (with_reducible repeat (first | refine blk_drewN ?_ _ | refine blk_drew ?_ | refine blk_alloc ?_ _)); refine blk_far ?_ NB308_338.out _; (with_reducible repeat (first | refine blk_drewN ?_ _ | refine blk_drew ?_ | refine blk_alloc ?_ _)); refine blk_far ?_ NB308_338.out _; (with_reducible repeat (first | refine blk_drewN ?_ _ | refine blk_drew ?_ | refine blk_alloc ?_ _)); exact BK308.out) hb); replace BK309 := Aside0.mk (blk_below (g := gb309) (o := .cells #[.slice A1_0 l1_0.length c1_0, .slice A1_1 l1_1.length c1_1] 24 (0, 0)) (by (with_reducible repeat (first | refine blk_drewN ?_ _ | refine blk_drew ?_ | refine blk_alloc ?_ _)); refine blk_far ?_ NB309_338.out _; (with_reducible repeat (first | refine blk_drewN ?_ _ | refine blk_drew ?_ | refine blk_alloc ?_ _)); refine blk_far ?_ NB309_338.out _; (with_reducible repeat (first | refine blk_drewN ?_ _ | refine blk_drew ?_ | refine blk_alloc ?_ _)); exact BK309.out) hb); replace BK331 := Aside0.mk (blk_below (g := gb331) (o := .cells #[.slice Ao43 t324.length co43, .slice Ao45 t327.length co45] 26 (0, 0)) (by (with_reducible repeat (first | refine blk_drewN ?_ _ | refine blk_drew ?_ | refine blk_alloc ?_ _)); refine blk_far ?_ NB331_338.out _; (with_reducible repeat (first | refine blk_drewN ?_ _ | refine blk_drew ?_ | refine blk_alloc ?_ _)); refine blk_far ?_ NB331_338.out _; (with_reducible repeat (first | refine blk_drewN ?_ _ | refine blk_drew ?_ | refine blk_alloc ?_ _)); exact BK331.out) hb); replace BK338 := Aside0.mk (blk_below (g := gb338) (o := .cells #[.slice Ao51 t332.length co51, .slice Ao56 t335.length co56] 26 (0, 0)) (by (with_reducible repeat (first | refine blk_drewN ?_ _ | refine blk_drew ?_ | refine blk_alloc ?_ _)); refine blk_put (cs := #[.slice Ao51 t332.length co51, .slice none 0 0]) ?_ 1 _ rfl; (with_reducible repeat (first | refine blk_drewN ?_ _ | refine blk_drew ?_ | refine blk_alloc ?_ _)); refine blk_put (cs := #[.slice none 0 0, .slice none 0 0]) ?_ 0 _ rfl; (with_reducible repeat (first | refine blk_drewN ?_ _ | refine blk_drew ?_ | refine blk_alloc ?_ _)); exact BK338.out) hb); replace HB := Aside0.mk (below_step (bS4 HB.out GE308.out GE309.out GE331.out GE338.out) hb); (try clear hb); (try clear hb2); (try clear hk); (try clear hi); (try clear ho0); (try clear ho1)) | ((with_reducible refine gate_dst (N := 9) rfl ?_); refine box_event ?hg (N := 9) ?hd (cs := #[.slice none 0 0, .slice none 0 0]) (t := 26) ?hr ?_; (case hd => rfl); (case hg => rfl); (case hr => first | (go_simp; done) | (go_simp; rfl)); intro gb345 hg w60 hbox hb; replace HO314 := Aside0.mk (Kd.R_below (RU HO314.out) hb); replace HO317 := Aside0.mk (Kd.R_below (RU HO317.out) hb); replace HO320 := Aside0.mk (Kd.R_below (RU HO320.out) hb); replace HO323 := Aside0.mk (Kd.R_below (RU HO323.out) hb); replace HO326 := Aside0.mk (Kd.R_below (RU HO326.out) hb); replace HO329 := Aside0.mk (Kd.R_below (RU HO329.out) hb); replace HO334 := Aside0.mk (Kd.R_below (RU HO334.out) hb); replace HO337 := Aside0.mk (Kd.R_below (RU HO337.out) hb); replace HO341 := Aside0.mk (Kd.R_below (RU HO341.out) hb); replace HO344 := Aside0.mk (Kd.R_below (RU HO344.out) hb); have BK345 := Aside0.mk (hbox); have GW345 := Aside0.mk ((by rw [hg]; exact (below_size (bS4 HB.out GE308.out GE309.out GE331.out GE338.out)) : w.heap.size ≤ gb345)); have GE345 := Aside0.mk ((by rw [hg]; exact (below_size (bS4 HB.out GE308.out GE309.out GE331.out GE338.out)) : w.heap.size ≤ gb345)); replace HB := Aside0.mk (below_step (bS4 HB.out GE308.out GE309.out GE331.out GE338.out) hb); have NB308_345 := Aside0.mk ((by rw [hg]; exact Nat.ne_of_lt (blk_lt (g := gb308) (o := .cells #[.slice A0_0 l0_0.length c0_0, .slice A0_1 l0_1.length c0_1] 24 (0, 0)) (kU BK308.out)) : gb308 ≠ gb345)); have NB345_308 := Aside0.mk ((by rw [hg]; exact Nat.ne_of_gt (blk_lt (g := gb308) (o := .cells #[.slice A0_0 l0_0.length c0_0, .slice A0_1 l0_1.length c0_1] 24 (0, 0)) (kU BK308.out)) : gb345 ≠ gb308)); replace BK308 := Aside0.mk (blk_below (g := gb308) (o := .cells #[.slice A0_0 l0_0.length c0_0, .slice A0_1 l0_1.length c0_1] 24 (0, 0)) (kU BK308.out) hb); have NB309_345 := Aside0.mk ((by rw [hg]; exact Nat.ne_of_lt (blk_lt (g := gb309) (o := .cells #[.slice A1_0 l1_0.length c1_0, .slice A1_1 l1_1.length c1_1] 24 (0, 0)) (kU BK309.out)) : gb309 ≠ gb345)); have NB345_309 := Aside0.mk ((by rw [hg]; exact Nat.ne_of_gt (blk_lt (g := gb309) (o := .cells #[.slice A1_0 l1_0.length c1_0, .slice A1_1 l1_1.length c1_1] 24 (0, 0)) (kU BK309.out)) : gb345 ≠ gb309)); replace BK309 := Aside0.mk (blk_below (g := gb309) (o := .cells #[.slice A1_0 l1_0.length c1_0, .slice A1_1 l1_1.length c1_1] 24 (0, 0)) (kU BK309.out) hb); have NB331_345 := Aside0.mk ((by rw [hg]; exact Nat.ne_of_lt (blk_lt (g := gb331) (o := .cells #[.slice Ao43 t324.length co43, .slice Ao45 t327.length co45] 26 (0, 0)) (kU BK331.out)) : gb331 ≠ gb345)); have NB345_331 := Aside0.mk ((by rw [hg]; exact Nat.ne_of_gt (blk_lt (g := gb331) (o := .cells #[.slice Ao43 t324.length co43, .slice Ao45 t327.length co45] 26 (0, 0)) (kU BK331.out)) : gb345 ≠ gb331)); replace BK331 := Aside0.mk (blk_below (g := gb331) (o := .cells #[.slice Ao43 t324.length co43, .slice Ao45 t327.length co45] 26 (0, 0)) (kU BK331.out) hb); have NB338_345 := Aside0.mk ((by rw [hg]; exact Nat.ne_of_lt (blk_lt (g := gb338) (o := .cells #[.slice Ao51 t332.length co51, .slice Ao56 t335.length co56] 26 (0, 0)) (kU BK338.out)) : gb338 ≠ gb345)); have NB345_338 := Aside0.mk ((by rw [hg]; exact Nat.ne_of_gt (blk_lt (g := gb338) (o := .cells #[.slice Ao51 t332.length co51, .slice Ao56 t335.length co56] 26 (0, 0)) (kU BK338.out)) : gb345 ≠ gb338)); replace BK338 := Aside0.mk (blk_below (g := gb338) (o := .cells #[.slice Ao51 t332.length co51, .slice Ao56 t335.length co56] 26 (0, 0)) (kU BK338.out) hb); clear hb hbox hg; obtain ⟨Ao61, co61, eo61⟩ := Kd.R_slice HO341.out; subst eo61; have hnb62 := NB345_308.out; have hnc62 := NB308_345.out; have hnb63 := NB345_309.out; have hnc63 := NB309_345.out; have hnb64 := NB345_331.out; have hnc64 := NB331_345.out; have hnb65 := NB345_338.out; have hnc65 := NB338_345.out; have hcz66_0 : w60.cell? ⟨gb345, 0, none⟩ = some (.slice none 0 0) := (blk_cell BK345.out 0).trans rfl; have hcz66_1 : w60.cell? ⟨gb345, 1, none⟩ = some (.slice none 0 0) := (blk_cell BK345.out 1).trans rfl; have hfz66_0 := blk_frozen BK345.out 0; have hfz66_1 := blk_frozen BK345.out 1; obtain ⟨Ao67, co67, eo67⟩ := Kd.R_slice HO344.out; subst eo67; have hcz68_0 : w60.cell? ⟨gb338, 0, none⟩ = some (.slice Ao51 t332.length co51) := (blk_cell BK338.out 0).trans rfl; have hcz68_1 : w60.cell? ⟨gb338, 1, none⟩ = some (.slice Ao56 t335.length co56) := (blk_cell BK338.out 1).trans rfl; have hfz68_0 := blk_frozen BK338.out 0; have hfz68_1 := blk_frozen BK338.out 1) | ((with_reducible refine gate_callee (f := 40) rfl ?_); refine goesL_ (some 42) rfl rfl Try.func40 (by kernel_rfl) rfl #[.agg #[.slice Ao51 t332.length co51, .slice Ao56 t335.length co56], .agg #[.slice Ao61 t339.length co61, .slice Ao67 t342.length co67]] rfl (by (try simp only [List.map_toArray, List.map_cons, List.map_nil]); first | done | rfl | (simp only [List.length_drop, List.length_take]; rfl)) ?_; (with_reducible refine (impl_Rotate.calls k _ _ t332 _ _ t335 _ _ t339 _ _ t342 t346 t349 t352 _ ?side1 ?side2 ?side3 ?side4 ?side5 ?side6 ?side7 ?side8 A24.out).mono ?_); (case side1 => refine (Kd.R_reads' (e := 3) (base := w.heap.size) (ok := fun k_ => ((((((((some k_ ≠ (.slice Ao56 t335.length co56 : Value).ownBlock ∧ some k_ ≠ (v313 : Value).ownBlock) ∧ some k_ ≠ (v316 : Value).ownBlock) ∧ some k_ ≠ (v319 : Value).ownBlock) ∧ some k_ ≠ (v322 : Value).ownBlock) ∧ some k_ ≠ (.slice Ao43 t324.length co43 : Value).ownBlock) ∧ some k_ ≠ (.slice Ao45 t327.length co45 : Value).ownBlock) ∧ some k_ ≠ (.slice Ao61 t339.length co61 : Value).ownBlock) ∧ some k_ ≠ (.slice Ao67 t342.length co67 : Value).ownBlock)) (n := t332.length) (c := co51) ?_).2.2; exact (by (with_reducible repeat (first | apply Kd.R_alloc | apply Kd.R_drewN | apply Kd.R_drew)); exact (far2 HO334.out BK345.out))); (case side2 => exact (Kd.R_reads' HO334.out).2.1); (case side3 => refine (Kd.R_reads' (e := 3) (base := w.heap.size) (ok := fun k_ => ((((((((some k_ ≠ (.slice Ao51 t332.length co51 : Value).ownBlock ∧ some k_ ≠ (v313 : Value).ownBlock) ∧ some k_ ≠ (v316 : Value).ownBlock) ∧ some k_ ≠ (v319 : Value).ownBlock) ∧ some k_ ≠ (v322 : Value).ownBlock) ∧ some k_ ≠ (.slice Ao43 t324.length co43 : Value).ownBlock) ∧ some k_ ≠ (.slice Ao45 t327.length co45 : Value).ownBlock) ∧ some k_ ≠ (.slice Ao61 t339.length co61 : Value).ownBlock) ∧ some k_ ≠ (.slice Ao67 t342.length co67 : Value).ownBlock)) (n := t335.length) (c := co56) ?_).2.2; exact (by (with_reducible repeat (first | apply Kd.R_alloc | apply Kd.R_drewN | apply Kd.R_drew)); exact (far2 HO337.out BK345.out))); (case side4 => exact (Kd.R_reads' HO337.out).2.1); (case side5 => refine (Kd.R_reads' (e := 3) (base := w.heap.size) (ok := fun k_ => ((((((((some k_ ≠ (.slice Ao67 t342.length co67 : Value).ownBlock ∧ some k_ ≠ (v313 : Value).ownBlock) ∧ some k_ ≠ (v316 : Value).ownBlock) ∧ some k_ ≠ (v319 : Value).ownBlock) ∧ some k_ ≠ (v322 : Value).ownBlock) ∧ some k_ ≠ (.slice Ao43 t324.length co43 : Value).ownBlock) ∧ some k_ ≠ (.slice Ao45 t327.length co45 : Value).ownBlock) ∧ some k_ ≠ (.slice Ao51 t332.length co51 : Value).ownBlock) ∧ some k_ ≠ (.slice Ao56 t335.length co56 : Value).ownBlock)) (n := t339.length) (c := co61) ?_).2.2; exact (by (with_reducible repeat (first | apply Kd.R_alloc | apply Kd.R_drewN | apply Kd.R_drew)); exact (far2 HO341.out BK345.out))); (case side6 => exact (Kd.R_reads' HO341.out).2.1); (case side7 => refine (Kd.R_reads' (e := 3) (base := w.heap.size) (ok := fun k_ => ((((((((some k_ ≠ (.slice Ao61 t339.length co61 : Value).ownBlock ∧ some k_ ≠ (v313 : Value).ownBlock) ∧ some k_ ≠ (v316 : Value).ownBlock) ∧ some k_ ≠ (v319 : Value).ownBlock) ∧ some k_ ≠ (v322 : Value).ownBlock) ∧ some k_ ≠ (.slice Ao43 t324.length co43 : Value).ownBlock) ∧ some k_ ≠ (.slice Ao45 t327.length co45 : Value).ownBlock) ∧ some k_ ≠ (.slice Ao51 t332.length co51 : Value).ownBlock) ∧ some k_ ≠ (.slice Ao56 t335.length co56 : Value).ownBlock)) (n := t342.length) (c := co67) ?_).2.2; exact (by (with_reducible repeat (first | apply Kd.R_alloc | apply Kd.R_drewN | apply Kd.R_drew)); exact (far2 HO344.out BK345.out))); (case side8 => exact (Kd.R_reads' HO344.out).2.1); rintro e w69 ⟨v347, v350, rfl, ho0, ho1, hb⟩; refine ⟨_, rfl, ?_⟩; have HO348 := Aside0.mk (Kd.R_lower (Kd.R_new' (Kd.R_new' (Kd.R_new' (Kd.R_new' (Kd.R_new' (Kd.R_new' (Kd.R_new' (Kd.R_new' (Kd.R_new' (Kd.R_new' ho0 (Kd.R_lt (by (with_reducible repeat (first | apply Kd.R_alloc | apply Kd.R_drewN | apply Kd.R_drew)); exact (far2 HO314.out BK345.out)))) (Kd.R_lt (by (with_reducible repeat (first | apply Kd.R_alloc | apply Kd.R_drewN | apply Kd.R_drew)); exact (far2 HO317.out BK345.out)))) (Kd.R_lt (by (with_reducible repeat (first | apply Kd.R_alloc | apply Kd.R_drewN | apply Kd.R_drew)); exact (far2 HO320.out BK345.out)))) (Kd.R_lt (by (with_reducible repeat (first | apply Kd.R_alloc | apply Kd.R_drewN | apply Kd.R_drew)); exact (far2 HO323.out BK345.out)))) (Kd.R_lt (by (with_reducible repeat (first | apply Kd.R_alloc | apply Kd.R_drewN | apply Kd.R_drew)); exact (far2 HO326.out BK345.out)))) (Kd.R_lt (by (with_reducible repeat (first | apply Kd.R_alloc | apply Kd.R_drewN | apply Kd.R_drew)); exact (far2 HO329.out BK345.out)))) (Kd.R_lt (by (with_reducible repeat (first | apply Kd.R_alloc | apply Kd.R_drewN | apply Kd.R_drew)); exact (far2 HO334.out BK345.out)))) (Kd.R_lt (by (with_reducible repeat (first | apply Kd.R_alloc | apply Kd.R_drewN | apply Kd.R_drew)); exact (far2 HO337.out BK345.out)))) (Kd.R_lt (by (with_reducible repeat (first | apply Kd.R_alloc | apply Kd.R_drewN | apply Kd.R_drew)); exact (far2 HO341.out BK345.out)))) (Kd.R_lt (by (with_reducible repeat (first | apply Kd.R_alloc | apply Kd.R_drewN | apply Kd.R_drew)); exact (far2 HO344.out BK345.out)))) (below_size (by repeat (first | (with_reducible first | exact HB.out | apply below_alloc | apply pw_below_drewN | apply below_drew1 | refine below_set ?_ GE308.out | refine below_set ?_ GE309.out | refine below_set ?_ GE331.out | refine below_set ?_ GE338.out | refine below_set ?_ GE345.out) | exact HB.out)))); have HO351 := Aside0.mk (Kd.R_lower (Kd.R_new' (Kd.R_new' (Kd.R_new' (Kd.R_new' (Kd.R_new' (Kd.R_new' (Kd.R_new' (Kd.R_new' (Kd.R_new' (Kd.R_new' ho1 (Kd.R_lt (by (with_reducible repeat (first | apply Kd.R_alloc | apply Kd.R_drewN | apply Kd.R_drew)); exact (far2 HO314.out BK345.out)))) (Kd.R_lt (by (with_reducible repeat (first | apply Kd.R_alloc | apply Kd.R_drewN | apply Kd.R_drew)); exact (far2 HO317.out BK345.out)))) (Kd.R_lt (by (with_reducible repeat (first | apply Kd.R_alloc | apply Kd.R_drewN | apply Kd.R_drew)); exact (far2 HO320.out BK345.out)))) (Kd.R_lt (by (with_reducible repeat (first | apply Kd.R_alloc | apply Kd.R_drewN | apply Kd.R_drew)); exact (far2 HO323.out BK345.out)))) (Kd.R_lt (by (with_reducible repeat (first | apply Kd.R_alloc | apply Kd.R_drewN | apply Kd.R_drew)); exact (far2 HO326.out BK345.out)))) (Kd.R_lt (by (with_reducible repeat (first | apply Kd.R_alloc | apply Kd.R_drewN | apply Kd.R_drew)); exact (far2 HO329.out BK345.out)))) (Kd.R_lt (by (with_reducible repeat (first | apply Kd.R_alloc | apply Kd.R_drewN | apply Kd.R_drew)); exact (far2 HO334.out BK345.out)))) (Kd.R_lt (by (with_reducible repeat (first | apply Kd.R_alloc | apply Kd.R_drewN | apply Kd.R_drew)); exact (far2 HO337.out BK345.out)))) (Kd.R_lt (by (with_reducible repeat (first | apply Kd.R_alloc | apply Kd.R_drewN | apply Kd.R_drew)); exact (far2 HO341.out BK345.out)))) (Kd.R_lt (by (with_reducible repeat (first | apply Kd.R_alloc | apply Kd.R_drewN | apply Kd.R_drew)); exact (far2 HO344.out BK345.out)))) (below_size (by repeat (first | (with_reducible first | exact HB.out | apply below_alloc | apply pw_below_drewN | apply below_drew1 | refine below_set ?_ GE308.out | refine below_set ?_ GE309.out | refine below_set ?_ GE331.out | refine below_set ?_ GE338.out | refine below_set ?_ GE345.out) | exact HB.out)))); replace HO314 := Aside0.mk (Kd.R_mono (Kd.R_told (Kd.R_told (Kd.R_old (by (with_reducible repeat (first | apply Kd.R_alloc | apply Kd.R_drewN | apply Kd.R_drew)); exact (far2 HO314.out BK345.out)) hb) (Kd.R_base ho0)) (Kd.R_base ho1)) (fun _ h_ => h_.1)); replace HO317 := Aside0.mk (Kd.R_mono (Kd.R_told (Kd.R_told (Kd.R_old (by (with_reducible repeat (first | apply Kd.R_alloc | apply Kd.R_drewN | apply Kd.R_drew)); exact (far2 HO317.out BK345.out)) hb) (Kd.R_base ho0)) (Kd.R_base ho1)) (fun _ h_ => h_.1)); replace HO320 := Aside0.mk (Kd.R_mono (Kd.R_told (Kd.R_told (Kd.R_old (by (with_reducible repeat (first | apply Kd.R_alloc | apply Kd.R_drewN | apply Kd.R_drew)); exact (far2 HO320.out BK345.out)) hb) (Kd.R_base ho0)) (Kd.R_base ho1)) (fun _ h_ => h_.1)); replace HO323 := Aside0.mk (Kd.R_mono (Kd.R_told (Kd.R_told (Kd.R_old (by (with_reducible repeat (first | apply Kd.R_alloc | apply Kd.R_drewN | apply Kd.R_drew)); exact (far2 HO323.out BK345.out)) hb) (Kd.R_base ho0)) (Kd.R_base ho1)) (fun _ h_ => h_.1)); replace HO326 := Aside0.mk (Kd.R_mono (Kd.R_told (Kd.R_told (Kd.R_old (by (with_reducible repeat (first | apply Kd.R_alloc | apply Kd.R_drewN | apply Kd.R_drew)); exact (far2 HO326.out BK345.out)) hb) (Kd.R_base ho0)) (Kd.R_base ho1)) (fun _ h_ => h_.1)); replace HO329 := Aside0.mk (Kd.R_mono (Kd.R_told (Kd.R_told (Kd.R_old (by (with_reducible repeat (first | apply Kd.R_alloc | apply Kd.R_drewN | apply Kd.R_drew)); exact (far2 HO329.out BK345.out)) hb) (Kd.R_base ho0)) (Kd.R_base ho1)) (fun _ h_ => h_.1)); replace HO334 := Aside0.mk (Kd.R_mono (Kd.R_told (Kd.R_told (Kd.R_old (by (with_reducible repeat (first | apply Kd.R_alloc | apply Kd.R_drewN | apply Kd.R_drew)); exact (far2 HO334.out BK345.out)) hb) (Kd.R_base ho0)) (Kd.R_base ho1)) (fun _ h_ => h_.1)); replace HO337 := Aside0.mk (Kd.R_mono (Kd.R_told (Kd.R_told (Kd.R_old (by (with_reducible repeat (first | apply Kd.R_alloc | apply Kd.R_drewN | apply Kd.R_drew)); exact (far2 HO337.out BK345.out)) hb) (Kd.R_base ho0)) (Kd.R_base ho1)) (fun _ h_ => h_.1)); replace HO341 := Aside0.mk (Kd.R_mono (Kd.R_told (Kd.R_told (Kd.R_old (by (with_reducible repeat (first | apply Kd.R_alloc | apply Kd.R_drewN | apply Kd.R_drew)); exact (far2 HO341.out BK345.out)) hb) (Kd.R_base ho0)) (Kd.R_base ho1)) (fun _ h_ => h_.1)); replace HO344 := Aside0.mk (Kd.R_mono (Kd.R_told (Kd.R_told (Kd.R_old (by (with_reducible repeat (first | apply Kd.R_alloc | apply Kd.R_drewN | apply Kd.R_drew)); exact (far2 HO344.out BK345.out)) hb) (Kd.R_base ho0)) (Kd.R_base ho1)) (fun _ h_ => h_.1)); replace BK308 := Aside0.mk (blk_below (g := gb308) (o := .cells #[.slice A0_0 l0_0.length c0_0, .slice A0_1 l0_1.length c0_1] 24 (0, 0)) (by (with_reducible repeat (first | refine blk_drewN ?_ _ | refine blk_drew ?_ | refine blk_alloc ?_ _)); refine blk_far ?_ NB308_345.out _; (with_reducible repeat (first | refine blk_drewN ?_ _ | refine blk_drew ?_ | refine blk_alloc ?_ _)); refine blk_far ?_ NB308_345.out _; (with_reducible repeat (first | refine blk_drewN ?_ _ | refine blk_drew ?_ | refine blk_alloc ?_ _)); exact BK308.out) hb); replace BK309 := Aside0.mk (blk_below (g := gb309) (o := .cells #[.slice A1_0 l1_0.length c1_0, .slice A1_1 l1_1.length c1_1] 24 (0, 0)) (by (with_reducible repeat (first | refine blk_drewN ?_ _ | refine blk_drew ?_ | refine blk_alloc ?_ _)); refine blk_far ?_ NB309_345.out _; (with_reducible repeat (first | refine blk_drewN ?_ _ | refine blk_drew ?_ | refine blk_alloc ?_ _)); refine blk_far ?_ NB309_345.out _; (with_reducible repeat (first | refine blk_drewN ?_ _ | refine blk_drew ?_ | refine blk_alloc ?_ _)); exact BK309.out) hb); replace BK331 := Aside0.mk (blk_below (g := gb331) (o := .cells #[.slice Ao43 t324.length co43, .slice Ao45 t327.length co45] 26 (0, 0)) (by (with_reducible repeat (first | refine blk_drewN ?_ _ | refine blk_drew ?_ | refine blk_alloc ?_ _)); refine blk_far ?_ NB331_345.out _; (with_reducible repeat (first | refine blk_drewN ?_ _ | refine blk_drew ?_ | refine blk_alloc ?_ _)); refine blk_far ?_ NB331_345.out _; (with_reducible repeat (first | refine blk_drewN ?_ _ | refine blk_drew ?_ | refine blk_alloc ?_ _)); exact BK331.out) hb); replace BK338 := Aside0.mk (blk_below (g := gb338) (o := .cells #[.slice Ao51 t332.length co51, .slice Ao56 t335.length co56] 26 (0, 0)) (by (with_reducible repeat (first | refine blk_drewN ?_ _ | refine blk_drew ?_ | refine blk_alloc ?_ _)); refine blk_far ?_ NB338_345.out _; (with_reducible repeat (first | refine blk_drewN ?_ _ | refine blk_drew ?_ | refine blk_alloc ?_ _)); refine blk_far ?_ NB338_345.out _; (with_reducible repeat (first | refine blk_drewN ?_ _ | refine blk_drew ?_ | refine blk_alloc ?_ _)); exact BK338.out) hb); replace BK345 := Aside0.mk (blk_below (g := gb345) (o := .cells #[.slice Ao61 t339.length co61, .slice Ao67 t342.length co67] 26 (0, 0)) (by (with_reducible repeat (first | refine blk_drewN ?_ _ | refine blk_drew ?_ | refine blk_alloc ?_ _)); refine blk_put (cs := #[.slice Ao61 t339.length co61, .slice none 0 0]) ?_ 1 _ rfl; (with_reducible repeat (first | refine blk_drewN ?_ _ | refine blk_drew ?_ | refine blk_alloc ?_ _)); refine blk_put (cs := #[.slice none 0 0, .slice none 0 0]) ?_ 0 _ rfl; (with_reducible repeat (first | refine blk_drewN ?_ _ | refine blk_drew ?_ | refine blk_alloc ?_ _)); exact BK345.out) hb); replace HB := Aside0.mk (below_step (by repeat (first | (with_reducible first | exact HB.out | apply below_alloc | apply pw_below_drewN | apply below_drew1 | refine below_set ?_ GE308.out | refine below_set ?_ GE309.out | refine below_set ?_ GE331.out | refine below_set ?_ GE338.out | refine below_set ?_ GE345.out) | exact HB.out)) hb); (try clear hb); (try clear hb2); (try clear hk); (try clear hi); (try clear ho0); (try clear ho1)) | ((with_reducible refine gate_dst (N := 10) rfl ?_); refine box_event ?hg (N := 10) ?hd (cs := #[.slice none 0 0, .slice none 0 0]) (t := 26) ?hr ?_; (case hd => rfl); (case hg => rfl); (case hr => first | (go_simp; done) | (go_simp; rfl)); intro gb353 hg w70 hbox hb; replace HO314 := Aside0.mk (Kd.R_below (RU HO314.out) hb); replace HO317 := Aside0.mk (Kd.R_below (RU HO317.out) hb); replace HO320 := Aside0.mk (Kd.R_below (RU HO320.out) hb); replace HO323 := Aside0.mk (Kd.R_below (RU HO323.out) hb); replace HO326 := Aside0.mk (Kd.R_below (RU HO326.out) hb); replace HO329 := Aside0.mk (Kd.R_below (RU HO329.out) hb); replace HO334 := Aside0.mk (Kd.R_below (RU HO334.out) hb); replace HO337 := Aside0.mk (Kd.R_below (RU HO337.out) hb); replace HO341 := Aside0.mk (Kd.R_below (RU HO341.out) hb); replace HO344 := Aside0.mk (Kd.R_below (RU HO344.out) hb); replace HO348 := Aside0.mk (Kd.R_below (RU HO348.out) hb); replace HO351 := Aside0.mk (Kd.R_below (RU HO351.out) hb); have BK353 := Aside0.mk (hbox); have GW353 := Aside0.mk ((by rw [hg]; exact (below_size (by repeat (first | (with_reducible first | exact HB.out | apply below_alloc | apply pw_below_drewN | apply below_drew1 | refine below_set ?_ GE308.out | refine below_set ?_ GE309.out | refine below_set ?_ GE331.out | refine below_set ?_ GE338.out | refine below_set ?_ GE345.out) | exact HB.out))) : w.heap.size ≤ gb353)); have GE353 := Aside0.mk ((by rw [hg]; exact (below_size (by repeat (first | (with_reducible first | exact HB.out | apply below_alloc | apply pw_below_drewN | apply below_drew1 | refine below_set ?_ GE308.out | refine below_set ?_ GE309.out | refine below_set ?_ GE331.out | refine below_set ?_ GE338.out | refine below_set ?_ GE345.out) | exact HB.out))) : w.heap.size ≤ gb353)); replace HB := Aside0.mk (below_step (by repeat (first | (with_reducible first | exact HB.out | apply below_alloc | apply pw_below_drewN | apply below_drew1 | refine below_set ?_ GE308.out | refine below_set ?_ GE309.out | refine below_set ?_ GE331.out | refine below_set ?_ GE338.out | refine below_set ?_ GE345.out) | exact HB.out)) hb); have NB308_353 := Aside0.mk ((by rw [hg]; exact Nat.ne_of_lt (blk_lt (g := gb308) (o := .cells #[.slice A0_0 l0_0.length c0_0, .slice A0_1 l0_1.length c0_1] 24 (0, 0)) (kU BK308.out)) : gb308 ≠ gb353)); have NB353_308 := Aside0.mk ((by rw [hg]; exact Nat.ne_of_gt (blk_lt (g := gb308) (o := .cells #[.slice A0_0 l0_0.length c0_0, .slice A0_1 l0_1.length c0_1] 24 (0, 0)) (kU BK308.out)) : gb353 ≠ gb308)); replace BK308 := Aside0.mk (blk_below (g := gb308) (o := .cells #[.slice A0_0 l0_0.length c0_0, .slice A0_1 l0_1.length c0_1] 24 (0, 0)) (kU BK308.out) hb); have NB309_353 := Aside0.mk ((by rw [hg]; exact Nat.ne_of_lt (blk_lt (g := gb309) (o := .cells #[.slice A1_0 l1_0.length c1_0, .slice A1_1 l1_1.length c1_1] 24 (0, 0)) (kU BK309.out)) : gb309 ≠ gb353)); have NB353_309 := Aside0.mk ((by rw [hg]; exact Nat.ne_of_gt (blk_lt (g := gb309) (o := .cells #[.slice A1_0 l1_0.length c1_0, .slice A1_1 l1_1.length c1_1] 24 (0, 0)) (kU BK309.out)) : gb353 ≠ gb309)); replace BK309 := Aside0.mk (blk_below (g := gb309) (o := .cells #[.slice A1_0 l1_0.length c1_0, .slice A1_1 l1_1.length c1_1] 24 (0, 0)) (kU BK309.out) hb); have NB331_353 := Aside0.mk ((by rw [hg]; exact Nat.ne_of_lt (blk_lt (g := gb331) (o := .cells #[.slice Ao43 t324.length co43, .slice Ao45 t327.length co45] 26 (0, 0)) (kU BK331.out)) : gb331 ≠ gb353)); have NB353_331 := Aside0.mk ((by rw [hg]; exact Nat.ne_of_gt (blk_lt (g := gb331) (o := .cells #[.slice Ao43 t324.length co43, .slice Ao45 t327.length co45] 26 (0, 0)) (kU BK331.out)) : gb353 ≠ gb331)); replace BK331 := Aside0.mk (blk_below (g := gb331) (o := .cells #[.slice Ao43 t324.length co43, .slice Ao45 t327.length co45] 26 (0, 0)) (kU BK331.out) hb); have NB338_353 := Aside0.mk ((by rw [hg]; exact Nat.ne_of_lt (blk_lt (g := gb338) (o := .cells #[.slice Ao51 t332.length co51, .slice Ao56 t335.length co56] 26 (0, 0)) (kU BK338.out)) : gb338 ≠ gb353)); have NB353_338 := Aside0.mk ((by rw [hg]; exact Nat.ne_of_gt (blk_lt (g := gb338) (o := .cells #[.slice Ao51 t332.length co51, .slice Ao56 t335.length co56] 26 (0, 0)) (kU BK338.out)) : gb353 ≠ gb338)); replace BK338 := Aside0.mk (blk_below (g := gb338) (o := .cells #[.slice Ao51 t332.length co51, .slice Ao56 t335.length co56] 26 (0, 0)) (kU BK338.out) hb); have NB345_353 := Aside0.mk ((by rw [hg]; exact Nat.ne_of_lt (blk_lt (g := gb345) (o := .cells #[.slice Ao61 t339.length co61, .slice Ao67 t342.length co67] 26 (0, 0)) (kU BK345.out)) : gb345 ≠ gb353)); have NB353_345 := Aside0.mk ((by rw [hg]; exact Nat.ne_of_gt (blk_lt (g := gb345) (o := .cells #[.slice Ao61 t339.length co61, .slice Ao67 t342.length co67] 26 (0, 0)) (kU BK345.out)) : gb353 ≠ gb345)); replace BK345 := Aside0.mk (blk_below (g := gb345) (o := .cells #[.slice Ao61 t339.length co61, .slice Ao67 t342.length co67] 26 (0, 0)) (kU BK345.out) hb); clear hb hbox hg; obtain ⟨Ao71, co71, eo71⟩ := Kd.R_slice HO348.out; subst eo71; have hnb72 := NB353_308.out; have hnc72 := NB308_353.out; have hnb73 := NB353_309.out; have hnc73 := NB309_353.out; have hnb74 := NB353_331.out; have hnc74 := NB331_353.out; have hnb75 := NB353_338.out; have hnc75 := NB338_353.out; have hnb76 := NB353_345.out; have hnc76 := NB345_353.out; have hcz77_0 : w70.cell? ⟨gb353, 0, none⟩ = some (.slice none 0 0) := (blk_cell BK353.out 0).trans rfl; have hcz77_1 : w70.cell? ⟨gb353, 1, none⟩ = some (.slice none 0 0) := (blk_cell BK353.out 1).trans rfl; have hfz77_0 := blk_frozen BK353.out 0; have hfz77_1 := blk_frozen BK353.out 1; obtain ⟨Ao78, co78, eo78⟩ := Kd.R_slice HO351.out; subst eo78))
   (try simp only [Act.put, List.setIfInBounds_toArray, List.set_cons_zero, List.set_cons_succ])
   go_cut [53] (fun v53 wc => ∃ (kq : Nat) (x53_24 : Bool), v53 = .bool x53_24 ∧ Aside0 (laws_FnExactRotate.j0 kq t330 t352 x53_24 l0_0 l0_1 l1_0 l1_1 t324 t327 t332 t335 t339 t342 t346 t349 = some r) ∧ Aside0 (kq ≤ k) ∧ Aside0 (Kd.R (Kd.int .i64) 3 wc w.heap.size (fun k_ => some k_ ≠ ((.slice Ao45 t327.length co45) : Value).ownBlock ∧ some k_ ≠ ((.slice Ao51 t332.length co51) : Value).ownBlock ∧ some k_ ≠ ((.slice Ao56 t335.length co56) : Value).ownBlock ∧ some k_ ≠ ((.slice Ao61 t339.length co61) : Value).ownBlock ∧ some k_ ≠ ((.slice Ao67 t342.length co67) : Value).ownBlock ∧ some k_ ≠ ((.slice Ao71 t346.length co71) : Value).ownBlock ∧ some k_ ≠ ((.slice Ao78 t349.length co78) : Value).ownBlock) (.slice Ao43 t324.length co43) t324) ∧ Aside0 (Kd.R (Kd.int .i64) 3 wc w.heap.size (fun k_ => some k_ ≠ ((.slice Ao43 t324.length co43) : Value).ownBlock ∧ some k_ ≠ ((.slice Ao51 t332.length co51) : Value).ownBlock ∧ some k_ ≠ ((.slice Ao56 t335.length co56) : Value).ownBlock ∧ some k_ ≠ ((.slice Ao61 t339.length co61) : Value).ownBlock ∧ some k_ ≠ ((.slice Ao67 t342.length co67) : Value).ownBlock ∧ some k_ ≠ ((.slice Ao71 t346.length co71) : Value).ownBlock ∧ some k_ ≠ ((.slice Ao78 t349.length co78) : Value).ownBlock) (.slice Ao45 t327.length co45) t327) ∧ Aside0 (Kd.R (Kd.int .i64) 3 wc w.heap.size (fun k_ => some k_ ≠ ((.slice Ao43 t324.length co43) : Value).ownBlock ∧ some k_ ≠ ((.slice Ao45 t327.length co45) : Value).ownBlock ∧ some k_ ≠ ((.slice Ao56 t335.length co56) : Value).ownBlock ∧ some k_ ≠ ((.slice Ao61 t339.length co61) : Value).ownBlock ∧ some k_ ≠ ((.slice Ao67 t342.length co67) : Value).ownBlock ∧ some k_ ≠ ((.slice Ao71 t346.length co71) : Value).ownBlock ∧ some k_ ≠ ((.slice Ao78 t349.length co78) : Value).ownBlock) (.slice Ao51 t332.length co51) t332) ∧ Aside0 (Kd.R (Kd.int .i64) 3 wc w.heap.size (fun k_ => some k_ ≠ ((.slice Ao43 t324.length co43) : Value).ownBlock ∧ some k_ ≠ ((.slice Ao45 t327.length co45) : Value).ownBlock ∧ some k_ ≠ ((.slice Ao51 t332.length co51) : Value).ownBlock ∧ some k_ ≠ ((.slice Ao61 t339.length co61) : Value).ownBlock ∧ some k_ ≠ ((.slice Ao67 t342.length co67) : Value).ownBlock ∧ some k_ ≠ ((.slice Ao71 t346.length co71) : Value).ownBlock ∧ some k_ ≠ ((.slice Ao78 t349.length co78) : Value).ownBlock) (.slice Ao56 t335.length co56) t335) ∧ Aside0 (Kd.R (Kd.int .i64) 3 wc w.heap.size (fun k_ => some k_ ≠ ((.slice Ao43 t324.length co43) : Value).ownBlock ∧ some k_ ≠ ((.slice Ao45 t327.length co45) : Value).ownBlock ∧ some k_ ≠ ((.slice Ao51 t332.length co51) : Value).ownBlock ∧ some k_ ≠ ((.slice Ao56 t335.length co56) : Value).ownBlock ∧ some k_ ≠ ((.slice Ao67 t342.length co67) : Value).ownBlock ∧ some k_ ≠ ((.slice Ao71 t346.length co71) : Value).ownBlock ∧ some k_ ≠ ((.slice Ao78 t349.length co78) : Value).ownBlock) (.slice Ao61 t339.length co61) t339) ∧ Aside0 (Kd.R (Kd.int .i64) 3 wc w.heap.size (fun k_ => some k_ ≠ ((.slice Ao43 t324.length co43) : Value).ownBlock ∧ some k_ ≠ ((.slice Ao45 t327.length co45) : Value).ownBlock ∧ some k_ ≠ ((.slice Ao51 t332.length co51) : Value).ownBlock ∧ some k_ ≠ ((.slice Ao56 t335.length co56) : Value).ownBlock ∧ some k_ ≠ ((.slice Ao61 t339.length co61) : Value).ownBlock ∧ some k_ ≠ ((.slice Ao71 t346.length co71) : Value).ownBlock ∧ some k_ ≠ ((.slice Ao78 t349.length co78) : Value).ownBlock) (.slice Ao67 t342.length co67) t342) ∧ Aside0 (Kd.R (Kd.int .i64) 3 wc w.heap.size (fun k_ => some k_ ≠ ((.slice Ao43 t324.length co43) : Value).ownBlock ∧ some k_ ≠ ((.slice Ao45 t327.length co45) : Value).ownBlock ∧ some k_ ≠ ((.slice Ao51 t332.length co51) : Value).ownBlock ∧ some k_ ≠ ((.slice Ao56 t335.length co56) : Value).ownBlock ∧ some k_ ≠ ((.slice Ao61 t339.length co61) : Value).ownBlock ∧ some k_ ≠ ((.slice Ao67 t342.length co67) : Value).ownBlock ∧ some k_ ≠ ((.slice Ao78 t349.length co78) : Value).ownBlock) (.slice Ao71 t346.length co71) t346) ∧ Aside0 (Kd.R (Kd.int .i64) 3 wc w.heap.size (fun k_ => some k_ ≠ ((.slice Ao43 t324.length co43) : Value).ownBlock ∧ some k_ ≠ ((.slice Ao45 t327.length co45) : Value).ownBlock ∧ some k_ ≠ ((.slice Ao51 t332.length co51) : Value).ownBlock ∧ some k_ ≠ ((.slice Ao56 t335.length co56) : Value).ownBlock ∧ some k_ ≠ ((.slice Ao61 t339.length co61) : Value).ownBlock ∧ some k_ ≠ ((.slice Ao67 t342.length co67) : Value).ownBlock ∧ some k_ ≠ ((.slice Ao71 t346.length co71) : Value).ownBlock) (.slice Ao78 t349.length co78) t349) ∧ Aside0 (wc.heap[gb308]? = some (.cells #[(.slice A0_0 l0_0.length c0_0), (.slice A0_1 l0_1.length c0_1)] 24 (0, 0))) ∧ Aside0 (wc.heap[gb309]? = some (.cells #[(.slice A1_0 l1_0.length c1_0), (.slice A1_1 l1_1.length c1_1)] 24 (0, 0))) ∧ Aside0 (wc.heap[gb331]? = some (.cells #[(.slice Ao43 t324.length co43), (.slice Ao45 t327.length co45)] 26 (0, 0))) ∧ Aside0 (wc.heap[gb338]? = some (.cells #[(.slice Ao51 t332.length co51), (.slice Ao56 t335.length co56)] 26 (0, 0))) ∧ Aside0 (wc.heap[gb345]? = some (.cells #[(.slice Ao61 t339.length co61), (.slice Ao67 t342.length co67)] 26 (0, 0))) ∧ Aside0 (wc.heap[gb353]? = some (.cells #[(.slice Ao71 t346.length co71), (.slice Ao78 t349.length co78)] 26 (0, 0))) ∧ Aside0 (Below w.heap.size w wc))
   case first =>
    have H := HC25.out
    clear HC25
    replace H := Option.bind_eq_some_iff.mp H
    obtain ⟨t354, A790, H⟩ := H
    replace H : (if t354 = true then (laws_FnExactRotate.j0 k t330 t352 (t352 != t330) l0_0 l0_1 l1_0 l1_1 t324 t327 t332 t335 t339 t342 t346 t349) else (laws_FnExactRotate.j0 k t330 t352 true l0_0 l0_1 l1_0 l1_1 t324 t327 t332 t335 t339 t342 t346 t349)) = some r := H
    have A79 := Aside0.mk A790
    clear A790
    by_cases c80 : t354 = true
    ·
     subst c80
     have H1 : (laws_FnExactRotate.j0 k t330 t352 (t352 != t330) l0_0 l0_1 l1_0 l1_1 t324 t327 t332 t335 t339 t342 t346 t349) = some r := by rw [if_pos rfl] at H; exact H
     clear H
     have H := H1
     clear H1
     have H' := Aside0.mk H
     clear H
     have hnb81 := NB353_308.out
     have hnc81 := NB308_353.out
     have hnb82 := NB353_309.out
     have hnc82 := NB309_353.out
     have hnb83 := NB353_331.out
     have hnc83 := NB331_353.out
     have hnb84 := NB353_338.out
     have hnc84 := NB338_353.out
     have hnb85 := NB353_345.out
     have hnc85 := NB345_353.out
     have hcz86_0 : w70.cell? ⟨gb353, 0, none⟩ = some (.slice none 0 0) := (blk_cell BK353.out 0).trans rfl
     have hcz86_1 : w70.cell? ⟨gb353, 1, none⟩ = some (.slice none 0 0) := (blk_cell BK353.out 1).trans rfl
     have hfz86_0 := blk_frozen BK353.out 0
     have hfz86_1 := blk_frozen BK353.out 1
     have hnb87 := NB331_308.out
     have hnc87 := NB308_331.out
     have hnb88 := NB331_309.out
     have hnc88 := NB309_331.out
     have hnb89 := NB331_338.out
     have hnc89 := NB338_331.out
     have hnb90 := NB331_345.out
     have hnc90 := NB345_331.out
     have hcz91_0 : w70.cell? ⟨gb331, 0, none⟩ = some (.slice Ao43 t324.length co43) := (blk_cell BK331.out 0).trans rfl
     have hcz91_1 : w70.cell? ⟨gb331, 1, none⟩ = some (.slice Ao45 t327.length co45) := (blk_cell BK331.out 1).trans rfl
     have hfz91_0 := blk_frozen BK331.out 0
     have hfz91_1 := blk_frozen BK331.out 1
     go_wp2_with (first | ((with_reducible refine gate_callee (f := 19) rfl ?_); refine goesL_ (some 47) rfl rfl Try.func19 (by kernel_rfl) rfl #[.agg #[.slice Ao71 t346.length co71, .slice Ao78 t349.length co78], .agg #[.slice Ao43 t324.length co43, .slice Ao45 t327.length co45]] rfl (by (try simp only [List.map_toArray, List.map_cons, List.map_nil]); first | done | rfl | (simp only [List.length_drop, List.length_take]; rfl)) ?_; (with_reducible refine (laws_eqArray.calls k _ _ t346 _ _ t349 _ _ t324 _ _ t327 true _ ?side1 ?side2 ?side3 ?side4 ?side5 ?side6 ?side7 ?side8 A79.out).mono ?_); (case side1 => refine (Kd.R_reads' (e := 3) (base := w.heap.size) (ok := fun k_ => ((((((((((some k_ ≠ (.slice Ao78 t349.length co78 : Value).ownBlock ∧ some k_ ≠ (v313 : Value).ownBlock) ∧ some k_ ≠ (v316 : Value).ownBlock) ∧ some k_ ≠ (v319 : Value).ownBlock) ∧ some k_ ≠ (v322 : Value).ownBlock) ∧ some k_ ≠ (.slice Ao43 t324.length co43 : Value).ownBlock) ∧ some k_ ≠ (.slice Ao45 t327.length co45 : Value).ownBlock) ∧ some k_ ≠ (.slice Ao51 t332.length co51 : Value).ownBlock) ∧ some k_ ≠ (.slice Ao56 t335.length co56 : Value).ownBlock) ∧ some k_ ≠ (.slice Ao61 t339.length co61 : Value).ownBlock) ∧ some k_ ≠ (.slice Ao67 t342.length co67 : Value).ownBlock)) (n := t346.length) (c := co71) ?_).2.2; exact (by (with_reducible repeat (first | apply Kd.R_alloc | apply Kd.R_drewN | apply Kd.R_drew)); exact (far2 HO348.out BK353.out))); (case side2 => exact (Kd.R_reads' HO348.out).2.1); (case side3 => refine (Kd.R_reads' (e := 3) (base := w.heap.size) (ok := fun k_ => ((((((((((some k_ ≠ (.slice Ao71 t346.length co71 : Value).ownBlock ∧ some k_ ≠ (v313 : Value).ownBlock) ∧ some k_ ≠ (v316 : Value).ownBlock) ∧ some k_ ≠ (v319 : Value).ownBlock) ∧ some k_ ≠ (v322 : Value).ownBlock) ∧ some k_ ≠ (.slice Ao43 t324.length co43 : Value).ownBlock) ∧ some k_ ≠ (.slice Ao45 t327.length co45 : Value).ownBlock) ∧ some k_ ≠ (.slice Ao51 t332.length co51 : Value).ownBlock) ∧ some k_ ≠ (.slice Ao56 t335.length co56 : Value).ownBlock) ∧ some k_ ≠ (.slice Ao61 t339.length co61 : Value).ownBlock) ∧ some k_ ≠ (.slice Ao67 t342.length co67 : Value).ownBlock)) (n := t349.length) (c := co78) ?_).2.2; exact (by (with_reducible repeat (first | apply Kd.R_alloc | apply Kd.R_drewN | apply Kd.R_drew)); exact (far2 HO351.out BK353.out))); (case side4 => exact (Kd.R_reads' HO351.out).2.1); (case side5 => refine (Kd.R_reads' (e := 3) (base := w.heap.size) (ok := fun k_ => (((((((some k_ ≠ (v313 : Value).ownBlock ∧ (some k_ ≠ (v316 : Value).ownBlock ∧ (some k_ ≠ (v319 : Value).ownBlock ∧ (some k_ ≠ (v322 : Value).ownBlock ∧ some k_ ≠ (.slice Ao45 t327.length co45 : Value).ownBlock)))) ∧ some k_ ≠ (.slice Ao51 t332.length co51 : Value).ownBlock) ∧ some k_ ≠ (.slice Ao56 t335.length co56 : Value).ownBlock) ∧ some k_ ≠ (.slice Ao61 t339.length co61 : Value).ownBlock) ∧ some k_ ≠ (.slice Ao67 t342.length co67 : Value).ownBlock) ∧ some k_ ≠ (.slice Ao71 t346.length co71 : Value).ownBlock) ∧ some k_ ≠ (.slice Ao78 t349.length co78 : Value).ownBlock)) (n := t324.length) (c := co43) ?_).2.2; exact (by (with_reducible repeat (first | apply Kd.R_alloc | apply Kd.R_drewN | apply Kd.R_drew)); exact (far2 HO326.out BK353.out))); (case side6 => exact (Kd.R_reads' HO326.out).2.1); (case side7 => refine (Kd.R_reads' (e := 3) (base := w.heap.size) (ok := fun k_ => (((((((some k_ ≠ (v313 : Value).ownBlock ∧ (some k_ ≠ (v316 : Value).ownBlock ∧ (some k_ ≠ (v319 : Value).ownBlock ∧ (some k_ ≠ (v322 : Value).ownBlock ∧ some k_ ≠ (.slice Ao43 t324.length co43 : Value).ownBlock)))) ∧ some k_ ≠ (.slice Ao51 t332.length co51 : Value).ownBlock) ∧ some k_ ≠ (.slice Ao56 t335.length co56 : Value).ownBlock) ∧ some k_ ≠ (.slice Ao61 t339.length co61 : Value).ownBlock) ∧ some k_ ≠ (.slice Ao67 t342.length co67 : Value).ownBlock) ∧ some k_ ≠ (.slice Ao71 t346.length co71 : Value).ownBlock) ∧ some k_ ≠ (.slice Ao78 t349.length co78 : Value).ownBlock)) (n := t327.length) (c := co45) ?_).2.2; exact (by (with_reducible repeat (first | apply Kd.R_alloc | apply Kd.R_drewN | apply Kd.R_drew)); exact (far2 HO329.out BK353.out))); (case side8 => exact (Kd.R_reads' HO329.out).2.1); rintro e w92 ⟨rfl, hb⟩; refine ⟨_, rfl, ?_⟩; replace HO314 := Aside0.mk (Kd.R_below (by (with_reducible repeat (first | apply Kd.R_alloc | apply Kd.R_drewN | apply Kd.R_drew)); exact (far2 HO314.out BK353.out)) hb); replace HO317 := Aside0.mk (Kd.R_below (by (with_reducible repeat (first | apply Kd.R_alloc | apply Kd.R_drewN | apply Kd.R_drew)); exact (far2 HO317.out BK353.out)) hb); replace HO320 := Aside0.mk (Kd.R_below (by (with_reducible repeat (first | apply Kd.R_alloc | apply Kd.R_drewN | apply Kd.R_drew)); exact (far2 HO320.out BK353.out)) hb); replace HO323 := Aside0.mk (Kd.R_below (by (with_reducible repeat (first | apply Kd.R_alloc | apply Kd.R_drewN | apply Kd.R_drew)); exact (far2 HO323.out BK353.out)) hb); replace HO326 := Aside0.mk (Kd.R_below (by (with_reducible repeat (first | apply Kd.R_alloc | apply Kd.R_drewN | apply Kd.R_drew)); exact (far2 HO326.out BK353.out)) hb); replace HO329 := Aside0.mk (Kd.R_below (by (with_reducible repeat (first | apply Kd.R_alloc | apply Kd.R_drewN | apply Kd.R_drew)); exact (far2 HO329.out BK353.out)) hb); replace HO334 := Aside0.mk (Kd.R_below (by (with_reducible repeat (first | apply Kd.R_alloc | apply Kd.R_drewN | apply Kd.R_drew)); exact (far2 HO334.out BK353.out)) hb); replace HO337 := Aside0.mk (Kd.R_below (by (with_reducible repeat (first | apply Kd.R_alloc | apply Kd.R_drewN | apply Kd.R_drew)); exact (far2 HO337.out BK353.out)) hb); replace HO341 := Aside0.mk (Kd.R_below (by (with_reducible repeat (first | apply Kd.R_alloc | apply Kd.R_drewN | apply Kd.R_drew)); exact (far2 HO341.out BK353.out)) hb); replace HO344 := Aside0.mk (Kd.R_below (by (with_reducible repeat (first | apply Kd.R_alloc | apply Kd.R_drewN | apply Kd.R_drew)); exact (far2 HO344.out BK353.out)) hb); replace HO348 := Aside0.mk (Kd.R_below (by (with_reducible repeat (first | apply Kd.R_alloc | apply Kd.R_drewN | apply Kd.R_drew)); exact (far2 HO348.out BK353.out)) hb); replace HO351 := Aside0.mk (Kd.R_below (by (with_reducible repeat (first | apply Kd.R_alloc | apply Kd.R_drewN | apply Kd.R_drew)); exact (far2 HO351.out BK353.out)) hb); replace BK308 := Aside0.mk (blk_below (g := gb308) (o := .cells #[.slice A0_0 l0_0.length c0_0, .slice A0_1 l0_1.length c0_1] 24 (0, 0)) (by (with_reducible repeat (first | refine blk_drewN ?_ _ | refine blk_drew ?_ | refine blk_alloc ?_ _)); refine blk_far ?_ NB308_353.out _; (with_reducible repeat (first | refine blk_drewN ?_ _ | refine blk_drew ?_ | refine blk_alloc ?_ _)); refine blk_far ?_ NB308_353.out _; (with_reducible repeat (first | refine blk_drewN ?_ _ | refine blk_drew ?_ | refine blk_alloc ?_ _)); exact BK308.out) hb); replace BK309 := Aside0.mk (blk_below (g := gb309) (o := .cells #[.slice A1_0 l1_0.length c1_0, .slice A1_1 l1_1.length c1_1] 24 (0, 0)) (by (with_reducible repeat (first | refine blk_drewN ?_ _ | refine blk_drew ?_ | refine blk_alloc ?_ _)); refine blk_far ?_ NB309_353.out _; (with_reducible repeat (first | refine blk_drewN ?_ _ | refine blk_drew ?_ | refine blk_alloc ?_ _)); refine blk_far ?_ NB309_353.out _; (with_reducible repeat (first | refine blk_drewN ?_ _ | refine blk_drew ?_ | refine blk_alloc ?_ _)); exact BK309.out) hb); replace BK331 := Aside0.mk (blk_below (g := gb331) (o := .cells #[.slice Ao43 t324.length co43, .slice Ao45 t327.length co45] 26 (0, 0)) (by (with_reducible repeat (first | refine blk_drewN ?_ _ | refine blk_drew ?_ | refine blk_alloc ?_ _)); refine blk_far ?_ NB331_353.out _; (with_reducible repeat (first | refine blk_drewN ?_ _ | refine blk_drew ?_ | refine blk_alloc ?_ _)); refine blk_far ?_ NB331_353.out _; (with_reducible repeat (first | refine blk_drewN ?_ _ | refine blk_drew ?_ | refine blk_alloc ?_ _)); exact BK331.out) hb); replace BK338 := Aside0.mk (blk_below (g := gb338) (o := .cells #[.slice Ao51 t332.length co51, .slice Ao56 t335.length co56] 26 (0, 0)) (by (with_reducible repeat (first | refine blk_drewN ?_ _ | refine blk_drew ?_ | refine blk_alloc ?_ _)); refine blk_far ?_ NB338_353.out _; (with_reducible repeat (first | refine blk_drewN ?_ _ | refine blk_drew ?_ | refine blk_alloc ?_ _)); refine blk_far ?_ NB338_353.out _; (with_reducible repeat (first | refine blk_drewN ?_ _ | refine blk_drew ?_ | refine blk_alloc ?_ _)); exact BK338.out) hb); replace BK345 := Aside0.mk (blk_below (g := gb345) (o := .cells #[.slice Ao61 t339.length co61, .slice Ao67 t342.length co67] 26 (0, 0)) (by (with_reducible repeat (first | refine blk_drewN ?_ _ | refine blk_drew ?_ | refine blk_alloc ?_ _)); refine blk_far ?_ NB345_353.out _; (with_reducible repeat (first | refine blk_drewN ?_ _ | refine blk_drew ?_ | refine blk_alloc ?_ _)); refine blk_far ?_ NB345_353.out _; (with_reducible repeat (first | refine blk_drewN ?_ _ | refine blk_drew ?_ | refine blk_alloc ?_ _)); exact BK345.out) hb); replace BK353 := Aside0.mk (blk_below (g := gb353) (o := .cells #[.slice Ao71 t346.length co71, .slice Ao78 t349.length co78] 26 (0, 0)) (by (with_reducible repeat (first | refine blk_drewN ?_ _ | refine blk_drew ?_ | refine blk_alloc ?_ _)); refine blk_put (cs := #[.slice Ao71 t346.length co71, .slice none 0 0]) ?_ 1 _ rfl; (with_reducible repeat (first | refine blk_drewN ?_ _ | refine blk_drew ?_ | refine blk_alloc ?_ _)); refine blk_put (cs := #[.slice none 0 0, .slice none 0 0]) ?_ 0 _ rfl; (with_reducible repeat (first | refine blk_drewN ?_ _ | refine blk_drew ?_ | refine blk_alloc ?_ _)); exact BK353.out) hb); replace HB := Aside0.mk (below_step (by repeat (first | (with_reducible first | exact HB.out | apply below_alloc | apply pw_below_drewN | apply below_drew1 | refine below_set ?_ GE308.out | refine below_set ?_ GE309.out | refine below_set ?_ GE331.out | refine below_set ?_ GE338.out | refine below_set ?_ GE345.out | refine below_set ?_ GE353.out) | exact HB.out)) hb); (try clear hb); (try clear hb2); (try clear hk); (try clear hi)))
     go_meet
     case rel => exact ⟨_, ((t352 != t330)), (by first | rfl | (simp; done) | (simp [*]; done)), H', ⟨by first | omega | exact Nat.le_refl _⟩, ⟨by (with_reducible repeat (first | apply Kd.R_alloc | apply Kd.R_drewN | apply Kd.R_drew)); exact Kd.R_mono HO326.out (fun _ hk => ⟨hk.1.1.1.1.1.1.2.2.2.2, ⟨hk.1.1.1.1.1.2, ⟨hk.1.1.1.1.2, ⟨hk.1.1.1.2, ⟨hk.1.1.2, ⟨hk.1.2, hk.2⟩⟩⟩⟩⟩⟩)⟩, ⟨by (with_reducible repeat (first | apply Kd.R_alloc | apply Kd.R_drewN | apply Kd.R_drew)); exact Kd.R_mono HO329.out (fun _ hk => ⟨hk.1.1.1.1.1.1.2.2.2.2, ⟨hk.1.1.1.1.1.2, ⟨hk.1.1.1.1.2, ⟨hk.1.1.1.2, ⟨hk.1.1.2, ⟨hk.1.2, hk.2⟩⟩⟩⟩⟩⟩)⟩, ⟨by (with_reducible repeat (first | apply Kd.R_alloc | apply Kd.R_drewN | apply Kd.R_drew)); exact Kd.R_mono HO334.out (fun _ hk => ⟨hk.1.1.1.1.1.2, ⟨hk.1.1.1.1.2, ⟨hk.1.1.1.1.1.1.1.1.1.1, ⟨hk.1.1.1.2, ⟨hk.1.1.2, ⟨hk.1.2, hk.2⟩⟩⟩⟩⟩⟩)⟩, ⟨by (with_reducible repeat (first | apply Kd.R_alloc | apply Kd.R_drewN | apply Kd.R_drew)); exact Kd.R_mono HO337.out (fun _ hk => ⟨hk.1.1.1.1.1.2, ⟨hk.1.1.1.1.2, ⟨hk.1.1.1.1.1.1.1.1.1.1, ⟨hk.1.1.1.2, ⟨hk.1.1.2, ⟨hk.1.2, hk.2⟩⟩⟩⟩⟩⟩)⟩, ⟨by (with_reducible repeat (first | apply Kd.R_alloc | apply Kd.R_drewN | apply Kd.R_drew)); exact Kd.R_mono HO341.out (fun _ hk => ⟨hk.1.1.1.1.1.2, ⟨hk.1.1.1.1.2, ⟨hk.1.1.1.2, ⟨hk.1.1.2, ⟨hk.1.1.1.1.1.1.1.1.1.1, ⟨hk.1.2, hk.2⟩⟩⟩⟩⟩⟩)⟩, ⟨by (with_reducible repeat (first | apply Kd.R_alloc | apply Kd.R_drewN | apply Kd.R_drew)); exact Kd.R_mono HO344.out (fun _ hk => ⟨hk.1.1.1.1.1.2, ⟨hk.1.1.1.1.2, ⟨hk.1.1.1.2, ⟨hk.1.1.2, ⟨hk.1.1.1.1.1.1.1.1.1.1, ⟨hk.1.2, hk.2⟩⟩⟩⟩⟩⟩)⟩, ⟨by (with_reducible repeat (first | apply Kd.R_alloc | apply Kd.R_drewN | apply Kd.R_drew)); exact Kd.R_mono HO348.out (fun _ hk => ⟨hk.1.1.1.1.1.2, ⟨hk.1.1.1.1.2, ⟨hk.1.1.1.2, ⟨hk.1.1.2, ⟨hk.1.2, ⟨hk.2, hk.1.1.1.1.1.1.1.1.1.1⟩⟩⟩⟩⟩⟩)⟩, ⟨by (with_reducible repeat (first | apply Kd.R_alloc | apply Kd.R_drewN | apply Kd.R_drew)); exact Kd.R_mono HO351.out (fun _ hk => ⟨hk.1.1.1.1.1.2, ⟨hk.1.1.1.1.2, ⟨hk.1.1.1.2, ⟨hk.1.1.2, ⟨hk.1.2, ⟨hk.2, hk.1.1.1.1.1.1.1.1.1.1⟩⟩⟩⟩⟩⟩)⟩, ⟨by (with_reducible repeat (first | refine blk_drewN ?_ _ | refine blk_drew ?_ | refine blk_alloc ?_ _)); exact BK308.out⟩, ⟨by (with_reducible repeat (first | refine blk_drewN ?_ _ | refine blk_drew ?_ | refine blk_alloc ?_ _)); exact BK309.out⟩, ⟨by (with_reducible repeat (first | refine blk_drewN ?_ _ | refine blk_drew ?_ | refine blk_alloc ?_ _)); exact BK331.out⟩, ⟨by (with_reducible repeat (first | refine blk_drewN ?_ _ | refine blk_drew ?_ | refine blk_alloc ?_ _)); exact BK338.out⟩, ⟨by (with_reducible repeat (first | refine blk_drewN ?_ _ | refine blk_drew ?_ | refine blk_alloc ?_ _)); exact BK345.out⟩, ⟨by (with_reducible repeat (first | refine blk_drewN ?_ _ | refine blk_drew ?_ | refine blk_alloc ?_ _)); exact BK353.out⟩, ⟨by repeat (first | (with_reducible first | exact HB.out | apply below_alloc | apply pw_below_drewN | apply below_drew1 | refine below_set ?_ GE308.out | refine below_set ?_ GE309.out | refine below_set ?_ GE331.out | refine below_set ?_ GE338.out | refine below_set ?_ GE345.out | refine below_set ?_ GE353.out) | exact HB.out)⟩⟩
    ·
     replace c80 := Bool.eq_false_iff.mpr c80
     subst c80
     have H1 : (laws_FnExactRotate.j0 k t330 t352 true l0_0 l0_1 l1_0 l1_1 t324 t327 t332 t335 t339 t342 t346 t349) = some r := by rw [if_neg (show ¬ (false = true) by decide)] at H; exact H
     clear H
     have H := H1
     clear H1
     have hz_ : ∀ kz, laws_FnExactRotate.j0 kz t330 t352 true l0_0 l0_1 l1_0 l1_1 t324 t327 t332 t335 t339 t342 t346 t349 = some r → r = false := by intro kz hz; cases kz with | zero => exact absurd hz (by simp [laws_FnExactRotate.j0]) | succ kz => simp only [laws_FnExactRotate.j0] at hz; first | (rw [if_pos rfl] at hz; exact (Option.some.inj hz).symm) | (simp at hz; exact hz.symm) | (simp at hz; exact hz)
     exact absurd (HT.out.symm.trans (hz_ _ H)) (by decide)
   case rest =>
    clear HC25
    try clear c1
    try clear p2
    try clear c3
    try clear c4
    try clear c5
    try clear c6
    try clear c7
    try clear c8
    try clear c9
    try clear c17
    try clear c19
    try clear c39
    try clear c40
    try clear c47
    try clear c52
    try clear c53
    try clear c54
    try clear c57
    try clear c62
    try clear c63
    try clear c64
    try clear c65
    try clear c72
    try clear c73
    try clear c74
    try clear c75
    try clear c76
    try clear c80
    try clear c81
    try clear c82
    try clear c83
    try clear c84
    try clear c85
    try clear c87
    try clear c88
    try clear c89
    try clear c90
    try clear hcz48_0
    try clear hcz48_1
    try clear hcz55_0
    try clear hcz55_1
    try clear hcz58_0
    try clear hcz58_1
    try clear hcz66_0
    try clear hcz66_1
    try clear hcz68_0
    try clear hcz68_1
    try clear hcz77_0
    try clear hcz77_1
    try clear hcz86_0
    try clear hcz86_1
    try clear hcz91_0
    try clear hcz91_1
    try clear hfz48_0
    try clear hfz48_1
    try clear hfz55_0
    try clear hfz55_1
    try clear hfz58_0
    try clear hfz58_1
    try clear hfz66_0
    try clear hfz66_1
    try clear hfz68_0
    try clear hfz68_1
    try clear hfz77_0
    try clear hfz77_1
    try clear hfz86_0
    try clear hfz86_1
    try clear hfz91_0
    try clear hfz91_1
    obtain ⟨kq, x53_24, rfl, HA, HJ24, HO_332000, HO_332001, HO_339000, HO_339001, HO_346000, HO_346001, HO_354000, HO_354001, BK308, BK309, BK331, BK338, BK345, BK353, HB⟩ := hcut
    cases kq with
    | zero => exact absurd HA.out (by simp [laws_FnExactRotate.j0])
    | succ kj24 =>
     have H := HA.out
     clear HA
     simp only [laws_FnExactRotate.j0] at H
     by_cases c93 : x53_24 = true
     ·
      subst c93
      have H1 : (some false) = some r := by rw [if_pos rfl] at H; exact H
      clear H
      have H := H1
      clear H1
      obtain rfl := Option.some.inj H
      exact absurd HT.out (by decide)
     ·
      replace c93 := Bool.eq_false_iff.mpr c93
      subst c93
      have H1 : ((laws_toArray.f kj24 l0_0 l0_1).bind fun bt355 => ((laws_eqArray.f kj24 t332 t335 bt355.1 bt355.2).bind fun t361 => (if t361 = true then ((laws_toArray.f kj24 l1_0 l1_1).bind fun bt362 => ((laws_eqArray.f kj24 t339 t342 bt362.1 bt362.2).bind fun t368 => (if t368 = true then ((laws_markArray.f kj24 t332 t335 1).bind fun bt369 => ((laws_markArray.f kj24 t339 t342 bt369.1).bind fun bt372 => (if bt372.1 < 0 then (laws_FnExactRotate.j1 kj24 t330 true l0_0 l0_1 l1_0 l1_1 t324 t327 t346 t349) else ((laws_eqArray.f kj24 t346 t349 t324 t327).bind fun t375 => (if t375 = true then (laws_FnExactRotate.j1 kj24 t330 (t352 != t330) l0_0 l0_1 l1_0 l1_1 t324 t327 t346 t349) else (laws_FnExactRotate.j1 kj24 t330 true l0_0 l0_1 l1_0 l1_1 t324 t327 t346 t349)))))) else (some false)))) else (some false)))) = some r := by rw [if_neg (show ¬ (false = true) by decide)] at H; exact H
      clear H
      have H := H1
      clear H1
      replace H := Option.bind_eq_some_iff.mp H
      obtain ⟨⟨t355, t358⟩, A940, H⟩ := H
      replace H : ((laws_eqArray.f kj24 t332 t335 t355 t358).bind fun t361 => (if t361 = true then ((laws_toArray.f kj24 l1_0 l1_1).bind fun bt362 => ((laws_eqArray.f kj24 t339 t342 bt362.1 bt362.2).bind fun t368 => (if t368 = true then ((laws_markArray.f kj24 t332 t335 1).bind fun bt369 => ((laws_markArray.f kj24 t339 t342 bt369.1).bind fun bt372 => (if bt372.1 < 0 then (laws_FnExactRotate.j1 kj24 t330 true l0_0 l0_1 l1_0 l1_1 t324 t327 t346 t349) else ((laws_eqArray.f kj24 t346 t349 t324 t327).bind fun t375 => (if t375 = true then (laws_FnExactRotate.j1 kj24 t330 (t352 != t330) l0_0 l0_1 l1_0 l1_1 t324 t327 t346 t349) else (laws_FnExactRotate.j1 kj24 t330 true l0_0 l0_1 l1_0 l1_1 t324 t327 t346 t349)))))) else (some false)))) else (some false))) = some r := H
      have A94 := Aside0.mk A940
      clear A940
      replace H := Option.bind_eq_some_iff.mp H
      obtain ⟨t361, A950, H⟩ := H
      replace H : (if t361 = true then ((laws_toArray.f kj24 l1_0 l1_1).bind fun bt362 => ((laws_eqArray.f kj24 t339 t342 bt362.1 bt362.2).bind fun t368 => (if t368 = true then ((laws_markArray.f kj24 t332 t335 1).bind fun bt369 => ((laws_markArray.f kj24 t339 t342 bt369.1).bind fun bt372 => (if bt372.1 < 0 then (laws_FnExactRotate.j1 kj24 t330 true l0_0 l0_1 l1_0 l1_1 t324 t327 t346 t349) else ((laws_eqArray.f kj24 t346 t349 t324 t327).bind fun t375 => (if t375 = true then (laws_FnExactRotate.j1 kj24 t330 (t352 != t330) l0_0 l0_1 l1_0 l1_1 t324 t327 t346 t349) else (laws_FnExactRotate.j1 kj24 t330 true l0_0 l0_1 l1_0 l1_1 t324 t327 t346 t349)))))) else (some false)))) else (some false)) = some r := H
      have A95 := Aside0.mk A950
      clear A950
      by_cases c96 : t361 = true
      ·
       subst c96
       have H1 : ((laws_toArray.f kj24 l1_0 l1_1).bind fun bt362 => ((laws_eqArray.f kj24 t339 t342 bt362.1 bt362.2).bind fun t368 => (if t368 = true then ((laws_markArray.f kj24 t332 t335 1).bind fun bt369 => ((laws_markArray.f kj24 t339 t342 bt369.1).bind fun bt372 => (if bt372.1 < 0 then (laws_FnExactRotate.j1 kj24 t330 true l0_0 l0_1 l1_0 l1_1 t324 t327 t346 t349) else ((laws_eqArray.f kj24 t346 t349 t324 t327).bind fun t375 => (if t375 = true then (laws_FnExactRotate.j1 kj24 t330 (t352 != t330) l0_0 l0_1 l1_0 l1_1 t324 t327 t346 t349) else (laws_FnExactRotate.j1 kj24 t330 true l0_0 l0_1 l1_0 l1_1 t324 t327 t346 t349)))))) else (some false)))) = some r := by rw [if_pos rfl] at H; exact H
       clear H
       have H := H1
       clear H1
       replace H := Option.bind_eq_some_iff.mp H
       obtain ⟨⟨t362, t365⟩, A970, H⟩ := H
       replace H : ((laws_eqArray.f kj24 t339 t342 t362 t365).bind fun t368 => (if t368 = true then ((laws_markArray.f kj24 t332 t335 1).bind fun bt369 => ((laws_markArray.f kj24 t339 t342 bt369.1).bind fun bt372 => (if bt372.1 < 0 then (laws_FnExactRotate.j1 kj24 t330 true l0_0 l0_1 l1_0 l1_1 t324 t327 t346 t349) else ((laws_eqArray.f kj24 t346 t349 t324 t327).bind fun t375 => (if t375 = true then (laws_FnExactRotate.j1 kj24 t330 (t352 != t330) l0_0 l0_1 l1_0 l1_1 t324 t327 t346 t349) else (laws_FnExactRotate.j1 kj24 t330 true l0_0 l0_1 l1_0 l1_1 t324 t327 t346 t349)))))) else (some false))) = some r := H
       have A97 := Aside0.mk A970
       clear A970
       replace H := Option.bind_eq_some_iff.mp H
       obtain ⟨t368, A980, H⟩ := H
       replace H : (if t368 = true then ((laws_markArray.f kj24 t332 t335 1).bind fun bt369 => ((laws_markArray.f kj24 t339 t342 bt369.1).bind fun bt372 => (if bt372.1 < 0 then (laws_FnExactRotate.j1 kj24 t330 true l0_0 l0_1 l1_0 l1_1 t324 t327 t346 t349) else ((laws_eqArray.f kj24 t346 t349 t324 t327).bind fun t375 => (if t375 = true then (laws_FnExactRotate.j1 kj24 t330 (t352 != t330) l0_0 l0_1 l1_0 l1_1 t324 t327 t346 t349) else (laws_FnExactRotate.j1 kj24 t330 true l0_0 l0_1 l1_0 l1_1 t324 t327 t346 t349)))))) else (some false)) = some r := H
       have A98 := Aside0.mk A980
       clear A980
       by_cases c99 : t368 = true
       ·
        subst c99
        have H1 : ((laws_markArray.f kj24 t332 t335 1).bind fun bt369 => ((laws_markArray.f kj24 t339 t342 bt369.1).bind fun bt372 => (if bt372.1 < 0 then (laws_FnExactRotate.j1 kj24 t330 true l0_0 l0_1 l1_0 l1_1 t324 t327 t346 t349) else ((laws_eqArray.f kj24 t346 t349 t324 t327).bind fun t375 => (if t375 = true then (laws_FnExactRotate.j1 kj24 t330 (t352 != t330) l0_0 l0_1 l1_0 l1_1 t324 t327 t346 t349) else (laws_FnExactRotate.j1 kj24 t330 true l0_0 l0_1 l1_0 l1_1 t324 t327 t346 t349)))))) = some r := by rw [if_pos rfl] at H; exact H
        clear H
        have H := H1
        clear H1
        replace H := Option.bind_eq_some_iff.mp H
        obtain ⟨⟨t369, t370, t371⟩, A1000, H⟩ := H
        replace H : ((laws_markArray.f kj24 t339 t342 t369).bind fun bt372 => (if bt372.1 < 0 then (laws_FnExactRotate.j1 kj24 t330 true l0_0 l0_1 l1_0 l1_1 t324 t327 t346 t349) else ((laws_eqArray.f kj24 t346 t349 t324 t327).bind fun t375 => (if t375 = true then (laws_FnExactRotate.j1 kj24 t330 (t352 != t330) l0_0 l0_1 l1_0 l1_1 t324 t327 t346 t349) else (laws_FnExactRotate.j1 kj24 t330 true l0_0 l0_1 l1_0 l1_1 t324 t327 t346 t349))))) = some r := H
        have A100 := Aside0.mk A1000
        clear A1000
        replace H := Option.bind_eq_some_iff.mp H
        obtain ⟨⟨t372, t373, t374⟩, A1010, H⟩ := H
        replace H : (if t372 < 0 then (laws_FnExactRotate.j1 kj24 t330 true l0_0 l0_1 l1_0 l1_1 t324 t327 t346 t349) else ((laws_eqArray.f kj24 t346 t349 t324 t327).bind fun t375 => (if t375 = true then (laws_FnExactRotate.j1 kj24 t330 (t352 != t330) l0_0 l0_1 l1_0 l1_1 t324 t327 t346 t349) else (laws_FnExactRotate.j1 kj24 t330 true l0_0 l0_1 l1_0 l1_1 t324 t327 t346 t349)))) = some r := H
        have A101 := Aside0.mk A1010
        clear A1010
        have HC102 := Aside0.mk H
        clear H
        try go_wp2
        replace HO_332000 := Aside0.mk (Kd.R_drew HO_332000.out)
        replace HO_332001 := Aside0.mk (Kd.R_drew HO_332001.out)
        replace HO_339000 := Aside0.mk (Kd.R_drew HO_339000.out)
        replace HO_339001 := Aside0.mk (Kd.R_drew HO_339001.out)
        replace HO_346000 := Aside0.mk (Kd.R_drew HO_346000.out)
        replace HO_346001 := Aside0.mk (Kd.R_drew HO_346001.out)
        replace HO_354000 := Aside0.mk (Kd.R_drew HO_354000.out)
        replace HO_354001 := Aside0.mk (Kd.R_drew HO_354001.out)
        replace BK308 := Aside0.mk (blk_drew BK308.out)
        replace BK309 := Aside0.mk (blk_drew BK309.out)
        replace BK331 := Aside0.mk (blk_drew BK331.out)
        replace BK338 := Aside0.mk (blk_drew BK338.out)
        replace BK345 := Aside0.mk (blk_drew BK345.out)
        replace BK353 := Aside0.mk (blk_drew BK353.out)
        replace HB := Aside0.mk (below_drew1 HB.out)
        refine start_ (n := 5) (S := fun w' => w'.cell? ⟨gb338, 0, none⟩ = some (.slice Ao51 t332.length co51) ∧ w'.cell? ⟨gb338, 1, none⟩ = some (.slice Ao56 t335.length co56) ∧ w'.cell? ⟨gb308, 0, none⟩ = some (.slice A0_0 l0_0.length c0_0) ∧ w'.cell? ⟨gb308, 1, none⟩ = some (.slice A0_1 l0_1.length c0_1)) (ds := []) #[false, false, false, false, false] (by kernel_rfl) rfl rfl ⟨(blk_cell BK338.out 0).trans rfl, (blk_cell BK338.out 1).trans rfl, (blk_cell BK308.out 0).trans rfl, (blk_cell BK308.out 1).trans rfl⟩ (fun hHeld => ?_)
        generalize wc.drew = w103 at HO_332000 HO_332001 HO_339000 HO_339001 HO_346000 HO_346001 HO_354000 HO_354001 BK308 BK309 BK331 BK338 BK345 BK353 HB hHeld ⊢
        refine take_ (i := 0) (N := some 54) (v := ?_) (a' := ?_) #[true, false, false, false, false] rfl rfl (by kernel_rfl) (fun _ _ _ h => h) (Or.inl ⟨by rfl, ?_⟩) hHeld ?_ ?_
        rotate_left
        ·
         rintro w' ⟨s0, s1, s2, s3⟩
         go_simp
         with_reducible rfl
        rotate_left
        ·
         simp only [Act.put, List.setIfInBounds_toArray, List.set_cons_zero, List.set_cons_succ, i64_w, i32_w]
         rfl
        refine take_ (i := 1) (N := some 55) (v := ?_) (a' := ?_) #[true, true, false, false, false] rfl rfl (by kernel_rfl) (fun _ _ _ h => h) (Or.inl ⟨by rfl, ?_⟩) hHeld ?_ ?_
        rotate_left
        ·
         rintro w' ⟨s0, s1, s2, s3⟩
         go_simp
         with_reducible rfl
        rotate_left
        ·
         simp only [Act.put, List.setIfInBounds_toArray, List.set_cons_zero, List.set_cons_succ, i64_w, i32_w]
         rfl
        refine one_ (i := 2) (N := some 56) #[true, true, true, false, false] rfl rfl (by kernel_rfl) (by decide) (fun K hK => ?_)
        refine goes_ Try.func17 (by kernel_rfl) rfl #[.agg #[.slice A0_0 l0_0.length c0_0, .slice A0_1 l0_1.length c0_1]] (by rfl) rfl rfl (by (try simp only [List.map_toArray, List.map_cons, List.map_nil]); first | done | rfl | (simp only [List.length_drop, List.length_take]; rfl)) ?_
        with_reducible refine (laws_toArray.calls kj24 _ _ l0_0 _ _ l0_1 t355 t358 _ ?side1 ?side2 ?side3 ?side4 A94.out).mono ?_
        (case side1 => exact cU (Kd.C_below HR0_0.out HB.out))
        (case side2 => exact HC0_0.out)
        (case side3 => exact cU (Kd.C_below HR0_1.out HB.out))
        (case side4 => exact HC0_1.out)
        rintro e w104 ⟨v356, v359, rfl, ho0, ho1, hb⟩
        refine ⟨_, rfl, ?_⟩
        have HO357 := Aside0.mk (Kd.R_lower (Kd.R_new' (Kd.R_new' (Kd.R_new' (Kd.R_new' (Kd.R_new' (Kd.R_new' (Kd.R_new' (Kd.R_new' ho0 (Kd.R_lt (RU HO_332000.out))) (Kd.R_lt (RU HO_332001.out))) (Kd.R_lt (RU HO_339000.out))) (Kd.R_lt (RU HO_339001.out))) (Kd.R_lt (RU HO_346000.out))) (Kd.R_lt (RU HO_346001.out))) (Kd.R_lt (RU HO_354000.out))) (Kd.R_lt (RU HO_354001.out))) (below_size (by repeat (first | (with_reducible first | exact HB.out | apply below_alloc | apply pw_below_drewN | apply below_drew1 | refine below_set ?_ GE308.out | refine below_set ?_ GE309.out | refine below_set ?_ GE331.out | refine below_set ?_ GE338.out | refine below_set ?_ GE345.out | refine below_set ?_ GE353.out) | exact HB.out))))
        have HO360 := Aside0.mk (Kd.R_lower (Kd.R_new' (Kd.R_new' (Kd.R_new' (Kd.R_new' (Kd.R_new' (Kd.R_new' (Kd.R_new' (Kd.R_new' ho1 (Kd.R_lt (RU HO_332000.out))) (Kd.R_lt (RU HO_332001.out))) (Kd.R_lt (RU HO_339000.out))) (Kd.R_lt (RU HO_339001.out))) (Kd.R_lt (RU HO_346000.out))) (Kd.R_lt (RU HO_346001.out))) (Kd.R_lt (RU HO_354000.out))) (Kd.R_lt (RU HO_354001.out))) (below_size (by repeat (first | (with_reducible first | exact HB.out | apply below_alloc | apply pw_below_drewN | apply below_drew1 | refine below_set ?_ GE308.out | refine below_set ?_ GE309.out | refine below_set ?_ GE331.out | refine below_set ?_ GE338.out | refine below_set ?_ GE345.out | refine below_set ?_ GE353.out) | exact HB.out))))
        replace HO_332000 := Aside0.mk (Kd.R_mono (Kd.R_told (Kd.R_told (Kd.R_old (RU HO_332000.out) hb) (Kd.R_base ho0)) (Kd.R_base ho1)) (fun _ h_ => h_.1))
        replace HO_332001 := Aside0.mk (Kd.R_mono (Kd.R_told (Kd.R_told (Kd.R_old (RU HO_332001.out) hb) (Kd.R_base ho0)) (Kd.R_base ho1)) (fun _ h_ => h_.1))
        replace HO_339000 := Aside0.mk (Kd.R_mono (Kd.R_told (Kd.R_told (Kd.R_old (RU HO_339000.out) hb) (Kd.R_base ho0)) (Kd.R_base ho1)) (fun _ h_ => h_.1))
        replace HO_339001 := Aside0.mk (Kd.R_mono (Kd.R_told (Kd.R_told (Kd.R_old (RU HO_339001.out) hb) (Kd.R_base ho0)) (Kd.R_base ho1)) (fun _ h_ => h_.1))
        replace HO_346000 := Aside0.mk (Kd.R_mono (Kd.R_told (Kd.R_told (Kd.R_old (RU HO_346000.out) hb) (Kd.R_base ho0)) (Kd.R_base ho1)) (fun _ h_ => h_.1))
        replace HO_346001 := Aside0.mk (Kd.R_mono (Kd.R_told (Kd.R_told (Kd.R_old (RU HO_346001.out) hb) (Kd.R_base ho0)) (Kd.R_base ho1)) (fun _ h_ => h_.1))
        replace HO_354000 := Aside0.mk (Kd.R_mono (Kd.R_told (Kd.R_told (Kd.R_old (RU HO_354000.out) hb) (Kd.R_base ho0)) (Kd.R_base ho1)) (fun _ h_ => h_.1))
        replace HO_354001 := Aside0.mk (Kd.R_mono (Kd.R_told (Kd.R_told (Kd.R_old (RU HO_354001.out) hb) (Kd.R_base ho0)) (Kd.R_base ho1)) (fun _ h_ => h_.1))
        replace BK308 := Aside0.mk (blk_below (g := gb308) (o := .cells #[.slice A0_0 l0_0.length c0_0, .slice A0_1 l0_1.length c0_1] 24 (0, 0)) (kU BK308.out) hb)
        replace BK309 := Aside0.mk (blk_below (g := gb309) (o := .cells #[.slice A1_0 l1_0.length c1_0, .slice A1_1 l1_1.length c1_1] 24 (0, 0)) (kU BK309.out) hb)
        replace BK331 := Aside0.mk (blk_below (g := gb331) (o := .cells #[.slice Ao43 t324.length co43, .slice Ao45 t327.length co45] 26 (0, 0)) (kU BK331.out) hb)
        replace BK338 := Aside0.mk (blk_below (g := gb338) (o := .cells #[.slice Ao51 t332.length co51, .slice Ao56 t335.length co56] 26 (0, 0)) (kU BK338.out) hb)
        replace BK345 := Aside0.mk (blk_below (g := gb345) (o := .cells #[.slice Ao61 t339.length co61, .slice Ao67 t342.length co67] 26 (0, 0)) (kU BK345.out) hb)
        replace BK353 := Aside0.mk (blk_below (g := gb353) (o := .cells #[.slice Ao71 t346.length co71, .slice Ao78 t349.length co78] 26 (0, 0)) (kU BK353.out) hb)
        replace HB := Aside0.mk (below_step (by repeat (first | (with_reducible first | exact HB.out | apply below_alloc | apply pw_below_drewN | apply below_drew1 | refine below_set ?_ GE308.out | refine below_set ?_ GE309.out | refine below_set ?_ GE331.out | refine below_set ?_ GE338.out | refine below_set ?_ GE345.out | refine below_set ?_ GE353.out) | exact HB.out)) hb)
        (try clear hb)
        (try clear hb2)
        (try clear hk)
        (try clear hi)
        (try clear ho0)
        (try clear ho1)
        obtain ⟨Ao105, co105, eo105⟩ := Kd.R_slice HO357.out
        (first | subst eo105 | (injection eo105 with f1_ f2_ f3_; have f4_ := f1_.symm; have f5_ := f3_.symm; clear f1_ f2_ f3_; subst f4_; subst f5_))
        obtain ⟨Ao106, co106, eo106⟩ := Kd.R_slice HO360.out
        (first | subst eo106 | (injection eo106 with f1_ f2_ f3_; have f4_ := f1_.symm; have f5_ := f3_.symm; clear f1_ f2_ f3_; subst f4_; subst f5_))
        refine hK.out _ _ ⟨(blk_cell BK338.out 0).trans rfl, (blk_cell BK338.out 1).trans rfl, (blk_cell BK308.out 0).trans rfl, (blk_cell BK308.out 1).trans rfl⟩ (fun hHeld => ?_)
        clear hK K
        refine norm_ (a' := ?_) ?_ ?_
        rotate_left
        ·
         show Act.put _ (some 56) _ = _
         simp only [Act.put, List.setIfInBounds_toArray, List.set_cons_zero, List.set_cons_succ, i64_w, i32_w]
         rfl
        refine one_ (i := 3) (N := some 57) #[true, true, true, true, false] rfl rfl (by kernel_rfl) (by decide) (fun K hK => ?_)
        refine goes_ Try.func19 (by kernel_rfl) rfl #[.agg #[.slice Ao51 t332.length co51, .slice Ao56 t335.length co56], .agg #[.slice Ao105 t355.length co105, .slice Ao106 t358.length co106]] (by rfl) rfl rfl (by (try simp only [List.map_toArray, List.map_cons, List.map_nil]); first | done | rfl | (simp only [List.length_drop, List.length_take]; rfl)) ?_
        with_reducible refine (laws_eqArray.calls kj24 _ _ t332 _ _ t335 _ _ t355 _ _ t358 true _ ?side1 ?side2 ?side3 ?side4 ?side5 ?side6 ?side7 ?side8 A95.out).mono ?_
        (case side1 => exact cU (Kd.R_reads' HO_339000.out).2.2)
        (case side2 => exact (Kd.R_reads' HO_339000.out).2.1)
        (case side3 => exact cU (Kd.R_reads' HO_339001.out).2.2)
        (case side4 => exact (Kd.R_reads' HO_339001.out).2.1)
        (case side5 => exact cU (Kd.R_reads' HO357.out).2.2)
        (case side6 => exact (Kd.R_reads' HO357.out).2.1)
        (case side7 => exact cU (Kd.R_reads' HO360.out).2.2)
        (case side8 => exact (Kd.R_reads' HO360.out).2.1)
        rintro e w107 ⟨rfl, hb⟩
        refine ⟨_, rfl, ?_⟩
        replace HO_332000 := Aside0.mk (Kd.R_below (RU HO_332000.out) hb)
        replace HO_332001 := Aside0.mk (Kd.R_below (RU HO_332001.out) hb)
        replace HO_339000 := Aside0.mk (Kd.R_below (RU HO_339000.out) hb)
        replace HO_339001 := Aside0.mk (Kd.R_below (RU HO_339001.out) hb)
        replace HO_346000 := Aside0.mk (Kd.R_below (RU HO_346000.out) hb)
        replace HO_346001 := Aside0.mk (Kd.R_below (RU HO_346001.out) hb)
        replace HO_354000 := Aside0.mk (Kd.R_below (RU HO_354000.out) hb)
        replace HO_354001 := Aside0.mk (Kd.R_below (RU HO_354001.out) hb)
        replace HO357 := Aside0.mk (Kd.R_below (RU HO357.out) hb)
        replace HO360 := Aside0.mk (Kd.R_below (RU HO360.out) hb)
        replace BK308 := Aside0.mk (blk_below (g := gb308) (o := .cells #[.slice A0_0 l0_0.length c0_0, .slice A0_1 l0_1.length c0_1] 24 (0, 0)) (kU BK308.out) hb)
        replace BK309 := Aside0.mk (blk_below (g := gb309) (o := .cells #[.slice A1_0 l1_0.length c1_0, .slice A1_1 l1_1.length c1_1] 24 (0, 0)) (kU BK309.out) hb)
        replace BK331 := Aside0.mk (blk_below (g := gb331) (o := .cells #[.slice Ao43 t324.length co43, .slice Ao45 t327.length co45] 26 (0, 0)) (kU BK331.out) hb)
        replace BK338 := Aside0.mk (blk_below (g := gb338) (o := .cells #[.slice Ao51 t332.length co51, .slice Ao56 t335.length co56] 26 (0, 0)) (kU BK338.out) hb)
        replace BK345 := Aside0.mk (blk_below (g := gb345) (o := .cells #[.slice Ao61 t339.length co61, .slice Ao67 t342.length co67] 26 (0, 0)) (kU BK345.out) hb)
        replace BK353 := Aside0.mk (blk_below (g := gb353) (o := .cells #[.slice Ao71 t346.length co71, .slice Ao78 t349.length co78] 26 (0, 0)) (kU BK353.out) hb)
        replace HB := Aside0.mk (below_step (by repeat (first | (with_reducible first | exact HB.out | apply below_alloc | apply pw_below_drewN | apply below_drew1 | refine below_set ?_ GE308.out | refine below_set ?_ GE309.out | refine below_set ?_ GE331.out | refine below_set ?_ GE338.out | refine below_set ?_ GE345.out | refine below_set ?_ GE353.out) | exact HB.out)) hb)
        (try clear hb)
        (try clear hb2)
        (try clear hk)
        (try clear hi)
        refine hK.out _ _ ⟨(blk_cell BK338.out 0).trans rfl, (blk_cell BK338.out 1).trans rfl, (blk_cell BK308.out 0).trans rfl, (blk_cell BK308.out 1).trans rfl⟩ (fun hHeld => ?_)
        clear hK K
        refine norm_ (a' := ?_) ?_ ?_
        rotate_left
        ·
         show Act.put _ (some 57) _ = _
         simp only [Act.put, List.setIfInBounds_toArray, List.set_cons_zero, List.set_cons_succ, i64_w, i32_w]
         rfl
        refine pure_ (i := 4) (N := some 58) (v := ?_) (a' := ?_) #[true, true, true, true, true] rfl rfl (by kernel_rfl) (fun _ _ _ h => h) (Or.inl ⟨by rfl, ?_⟩) ?_ ?_
        rotate_left
        ·
         intro w'
         go_simp
         with_reducible rfl
        rotate_left
        ·
         simp only [Act.put, List.setIfInBounds_toArray, List.set_cons_zero, List.set_cons_succ, i64_w, i32_w]
         rfl
        refine done_ (by kernel_rfl) ?_
        try go_wp2
        replace HO_332000 := Aside0.mk (Kd.R_drew HO_332000.out)
        replace HO_332001 := Aside0.mk (Kd.R_drew HO_332001.out)
        replace HO_339000 := Aside0.mk (Kd.R_drew HO_339000.out)
        replace HO_339001 := Aside0.mk (Kd.R_drew HO_339001.out)
        replace HO_346000 := Aside0.mk (Kd.R_drew HO_346000.out)
        replace HO_346001 := Aside0.mk (Kd.R_drew HO_346001.out)
        replace HO_354000 := Aside0.mk (Kd.R_drew HO_354000.out)
        replace HO_354001 := Aside0.mk (Kd.R_drew HO_354001.out)
        replace HO357 := Aside0.mk (Kd.R_drew HO357.out)
        replace HO360 := Aside0.mk (Kd.R_drew HO360.out)
        replace BK308 := Aside0.mk (blk_drew BK308.out)
        replace BK309 := Aside0.mk (blk_drew BK309.out)
        replace BK331 := Aside0.mk (blk_drew BK331.out)
        replace BK338 := Aside0.mk (blk_drew BK338.out)
        replace BK345 := Aside0.mk (blk_drew BK345.out)
        replace BK353 := Aside0.mk (blk_drew BK353.out)
        replace HB := Aside0.mk (below_drew1 HB.out)
        refine start_ (n := 5) (S := fun w' => w'.cell? ⟨gb345, 0, none⟩ = some (.slice Ao61 t339.length co61) ∧ w'.cell? ⟨gb345, 1, none⟩ = some (.slice Ao67 t342.length co67) ∧ w'.cell? ⟨gb309, 0, none⟩ = some (.slice A1_0 l1_0.length c1_0) ∧ w'.cell? ⟨gb309, 1, none⟩ = some (.slice A1_1 l1_1.length c1_1)) (ds := []) #[false, false, false, false, false] (by kernel_rfl) rfl rfl ⟨(blk_cell BK345.out 0).trans rfl, (blk_cell BK345.out 1).trans rfl, (blk_cell BK309.out 0).trans rfl, (blk_cell BK309.out 1).trans rfl⟩ (fun hHeld => ?_)
        generalize w107.drew = w108 at HO_332000 HO_332001 HO_339000 HO_339001 HO_346000 HO_346001 HO_354000 HO_354001 HO357 HO360 BK308 BK309 BK331 BK338 BK345 BK353 HB hHeld ⊢
        refine take_ (i := 0) (N := some 59) (v := ?_) (a' := ?_) #[true, false, false, false, false] rfl rfl (by kernel_rfl) (fun _ _ _ h => h) (Or.inl ⟨by rfl, ?_⟩) hHeld ?_ ?_
        rotate_left
        ·
         rintro w' ⟨s0, s1, s2, s3⟩
         go_simp
         with_reducible rfl
        rotate_left
        ·
         simp only [Act.put, List.setIfInBounds_toArray, List.set_cons_zero, List.set_cons_succ, i64_w, i32_w]
         rfl
        refine take_ (i := 1) (N := some 60) (v := ?_) (a' := ?_) #[true, true, false, false, false] rfl rfl (by kernel_rfl) (fun _ _ _ h => h) (Or.inl ⟨by rfl, ?_⟩) hHeld ?_ ?_
        rotate_left
        ·
         rintro w' ⟨s0, s1, s2, s3⟩
         go_simp
         with_reducible rfl
        rotate_left
        ·
         simp only [Act.put, List.setIfInBounds_toArray, List.set_cons_zero, List.set_cons_succ, i64_w, i32_w]
         rfl
        refine one_ (i := 2) (N := some 61) #[true, true, true, false, false] rfl rfl (by kernel_rfl) (by decide) (fun K hK => ?_)
        refine goes_ Try.func17 (by kernel_rfl) rfl #[.agg #[.slice A1_0 l1_0.length c1_0, .slice A1_1 l1_1.length c1_1]] (by rfl) rfl rfl (by (try simp only [List.map_toArray, List.map_cons, List.map_nil]); first | done | rfl | (simp only [List.length_drop, List.length_take]; rfl)) ?_
        with_reducible refine (laws_toArray.calls kj24 _ _ l1_0 _ _ l1_1 t362 t365 _ ?side1 ?side2 ?side3 ?side4 A97.out).mono ?_
        (case side1 => exact cU (Kd.C_below HR1_0.out HB.out))
        (case side2 => exact HC1_0.out)
        (case side3 => exact cU (Kd.C_below HR1_1.out HB.out))
        (case side4 => exact HC1_1.out)
        rintro e w109 ⟨v363, v366, rfl, ho0, ho1, hb⟩
        refine ⟨_, rfl, ?_⟩
        have HO364 := Aside0.mk (Kd.R_lower (Kd.R_new' (Kd.R_new' (Kd.R_new' (Kd.R_new' (Kd.R_new' (Kd.R_new' (Kd.R_new' (Kd.R_new' (Kd.R_new' (Kd.R_new' ho0 (Kd.R_lt (RU HO_332000.out))) (Kd.R_lt (RU HO_332001.out))) (Kd.R_lt (RU HO_339000.out))) (Kd.R_lt (RU HO_339001.out))) (Kd.R_lt (RU HO_346000.out))) (Kd.R_lt (RU HO_346001.out))) (Kd.R_lt (RU HO_354000.out))) (Kd.R_lt (RU HO_354001.out))) (Kd.R_lt (RU HO357.out))) (Kd.R_lt (RU HO360.out))) (below_size (by repeat (first | (with_reducible first | exact HB.out | apply below_alloc | apply pw_below_drewN | apply below_drew1 | refine below_set ?_ GE308.out | refine below_set ?_ GE309.out | refine below_set ?_ GE331.out | refine below_set ?_ GE338.out | refine below_set ?_ GE345.out | refine below_set ?_ GE353.out) | exact HB.out))))
        have HO367 := Aside0.mk (Kd.R_lower (Kd.R_new' (Kd.R_new' (Kd.R_new' (Kd.R_new' (Kd.R_new' (Kd.R_new' (Kd.R_new' (Kd.R_new' (Kd.R_new' (Kd.R_new' ho1 (Kd.R_lt (RU HO_332000.out))) (Kd.R_lt (RU HO_332001.out))) (Kd.R_lt (RU HO_339000.out))) (Kd.R_lt (RU HO_339001.out))) (Kd.R_lt (RU HO_346000.out))) (Kd.R_lt (RU HO_346001.out))) (Kd.R_lt (RU HO_354000.out))) (Kd.R_lt (RU HO_354001.out))) (Kd.R_lt (RU HO357.out))) (Kd.R_lt (RU HO360.out))) (below_size (by repeat (first | (with_reducible first | exact HB.out | apply below_alloc | apply pw_below_drewN | apply below_drew1 | refine below_set ?_ GE308.out | refine below_set ?_ GE309.out | refine below_set ?_ GE331.out | refine below_set ?_ GE338.out | refine below_set ?_ GE345.out | refine below_set ?_ GE353.out) | exact HB.out))))
        replace HO_332000 := Aside0.mk (Kd.R_mono (Kd.R_told (Kd.R_told (Kd.R_old (RU HO_332000.out) hb) (Kd.R_base ho0)) (Kd.R_base ho1)) (fun _ h_ => h_.1))
        replace HO_332001 := Aside0.mk (Kd.R_mono (Kd.R_told (Kd.R_told (Kd.R_old (RU HO_332001.out) hb) (Kd.R_base ho0)) (Kd.R_base ho1)) (fun _ h_ => h_.1))
        replace HO_339000 := Aside0.mk (Kd.R_mono (Kd.R_told (Kd.R_told (Kd.R_old (RU HO_339000.out) hb) (Kd.R_base ho0)) (Kd.R_base ho1)) (fun _ h_ => h_.1))
        replace HO_339001 := Aside0.mk (Kd.R_mono (Kd.R_told (Kd.R_told (Kd.R_old (RU HO_339001.out) hb) (Kd.R_base ho0)) (Kd.R_base ho1)) (fun _ h_ => h_.1))
        replace HO_346000 := Aside0.mk (Kd.R_mono (Kd.R_told (Kd.R_told (Kd.R_old (RU HO_346000.out) hb) (Kd.R_base ho0)) (Kd.R_base ho1)) (fun _ h_ => h_.1))
        replace HO_346001 := Aside0.mk (Kd.R_mono (Kd.R_told (Kd.R_told (Kd.R_old (RU HO_346001.out) hb) (Kd.R_base ho0)) (Kd.R_base ho1)) (fun _ h_ => h_.1))
        replace HO_354000 := Aside0.mk (Kd.R_mono (Kd.R_told (Kd.R_told (Kd.R_old (RU HO_354000.out) hb) (Kd.R_base ho0)) (Kd.R_base ho1)) (fun _ h_ => h_.1))
        replace HO_354001 := Aside0.mk (Kd.R_mono (Kd.R_told (Kd.R_told (Kd.R_old (RU HO_354001.out) hb) (Kd.R_base ho0)) (Kd.R_base ho1)) (fun _ h_ => h_.1))
        replace HO357 := Aside0.mk (Kd.R_mono (Kd.R_told (Kd.R_told (Kd.R_old (RU HO357.out) hb) (Kd.R_base ho0)) (Kd.R_base ho1)) (fun _ h_ => h_.1))
        replace HO360 := Aside0.mk (Kd.R_mono (Kd.R_told (Kd.R_told (Kd.R_old (RU HO360.out) hb) (Kd.R_base ho0)) (Kd.R_base ho1)) (fun _ h_ => h_.1))
        replace BK308 := Aside0.mk (blk_below (g := gb308) (o := .cells #[.slice A0_0 l0_0.length c0_0, .slice A0_1 l0_1.length c0_1] 24 (0, 0)) (kU BK308.out) hb)
        replace BK309 := Aside0.mk (blk_below (g := gb309) (o := .cells #[.slice A1_0 l1_0.length c1_0, .slice A1_1 l1_1.length c1_1] 24 (0, 0)) (kU BK309.out) hb)
        replace BK331 := Aside0.mk (blk_below (g := gb331) (o := .cells #[.slice Ao43 t324.length co43, .slice Ao45 t327.length co45] 26 (0, 0)) (kU BK331.out) hb)
        replace BK338 := Aside0.mk (blk_below (g := gb338) (o := .cells #[.slice Ao51 t332.length co51, .slice Ao56 t335.length co56] 26 (0, 0)) (kU BK338.out) hb)
        replace BK345 := Aside0.mk (blk_below (g := gb345) (o := .cells #[.slice Ao61 t339.length co61, .slice Ao67 t342.length co67] 26 (0, 0)) (kU BK345.out) hb)
        replace BK353 := Aside0.mk (blk_below (g := gb353) (o := .cells #[.slice Ao71 t346.length co71, .slice Ao78 t349.length co78] 26 (0, 0)) (kU BK353.out) hb)
        replace HB := Aside0.mk (below_step (by repeat (first | (with_reducible first | exact HB.out | apply below_alloc | apply pw_below_drewN | apply below_drew1 | refine below_set ?_ GE308.out | refine below_set ?_ GE309.out | refine below_set ?_ GE331.out | refine below_set ?_ GE338.out | refine below_set ?_ GE345.out | refine below_set ?_ GE353.out) | exact HB.out)) hb)
        (try clear hb)
        (try clear hb2)
        (try clear hk)
        (try clear hi)
        (try clear ho0)
        (try clear ho1)
        obtain ⟨Ao110, co110, eo110⟩ := Kd.R_slice HO364.out
        (first | subst eo110 | (injection eo110 with f1_ f2_ f3_; have f4_ := f1_.symm; have f5_ := f3_.symm; clear f1_ f2_ f3_; subst f4_; subst f5_))
        obtain ⟨Ao111, co111, eo111⟩ := Kd.R_slice HO367.out
        (first | subst eo111 | (injection eo111 with f1_ f2_ f3_; have f4_ := f1_.symm; have f5_ := f3_.symm; clear f1_ f2_ f3_; subst f4_; subst f5_))
        refine hK.out _ _ ⟨(blk_cell BK345.out 0).trans rfl, (blk_cell BK345.out 1).trans rfl, (blk_cell BK309.out 0).trans rfl, (blk_cell BK309.out 1).trans rfl⟩ (fun hHeld => ?_)
        clear hK K
        refine norm_ (a' := ?_) ?_ ?_
        rotate_left
        ·
         show Act.put _ (some 61) _ = _
         simp only [Act.put, List.setIfInBounds_toArray, List.set_cons_zero, List.set_cons_succ, i64_w, i32_w]
         rfl
        refine one_ (i := 3) (N := some 62) #[true, true, true, true, false] rfl rfl (by kernel_rfl) (by decide) (fun K hK => ?_)
        refine goes_ Try.func19 (by kernel_rfl) rfl #[.agg #[.slice Ao61 t339.length co61, .slice Ao67 t342.length co67], .agg #[.slice Ao110 t362.length co110, .slice Ao111 t365.length co111]] (by rfl) rfl rfl (by (try simp only [List.map_toArray, List.map_cons, List.map_nil]); first | done | rfl | (simp only [List.length_drop, List.length_take]; rfl)) ?_
        with_reducible refine (laws_eqArray.calls kj24 _ _ t339 _ _ t342 _ _ t362 _ _ t365 true _ ?side1 ?side2 ?side3 ?side4 ?side5 ?side6 ?side7 ?side8 A98.out).mono ?_
        (case side1 => exact cU (Kd.R_reads' HO_346000.out).2.2)
        (case side2 => exact (Kd.R_reads' HO_346000.out).2.1)
        (case side3 => exact cU (Kd.R_reads' HO_346001.out).2.2)
        (case side4 => exact (Kd.R_reads' HO_346001.out).2.1)
        (case side5 => exact cU (Kd.R_reads' HO364.out).2.2)
        (case side6 => exact (Kd.R_reads' HO364.out).2.1)
        (case side7 => exact cU (Kd.R_reads' HO367.out).2.2)
        (case side8 => exact (Kd.R_reads' HO367.out).2.1)
        rintro e w112 ⟨rfl, hb⟩
        refine ⟨_, rfl, ?_⟩
        replace HO_332000 := Aside0.mk (Kd.R_below (RU HO_332000.out) hb)
        replace HO_332001 := Aside0.mk (Kd.R_below (RU HO_332001.out) hb)
        replace HO_339000 := Aside0.mk (Kd.R_below (RU HO_339000.out) hb)
        replace HO_339001 := Aside0.mk (Kd.R_below (RU HO_339001.out) hb)
        replace HO_346000 := Aside0.mk (Kd.R_below (RU HO_346000.out) hb)
        replace HO_346001 := Aside0.mk (Kd.R_below (RU HO_346001.out) hb)
        replace HO_354000 := Aside0.mk (Kd.R_below (RU HO_354000.out) hb)
        replace HO_354001 := Aside0.mk (Kd.R_below (RU HO_354001.out) hb)
        replace HO357 := Aside0.mk (Kd.R_below (RU HO357.out) hb)
        replace HO360 := Aside0.mk (Kd.R_below (RU HO360.out) hb)
        replace HO364 := Aside0.mk (Kd.R_below (RU HO364.out) hb)
        replace HO367 := Aside0.mk (Kd.R_below (RU HO367.out) hb)
        replace BK308 := Aside0.mk (blk_below (g := gb308) (o := .cells #[.slice A0_0 l0_0.length c0_0, .slice A0_1 l0_1.length c0_1] 24 (0, 0)) (kU BK308.out) hb)
        replace BK309 := Aside0.mk (blk_below (g := gb309) (o := .cells #[.slice A1_0 l1_0.length c1_0, .slice A1_1 l1_1.length c1_1] 24 (0, 0)) (kU BK309.out) hb)
        replace BK331 := Aside0.mk (blk_below (g := gb331) (o := .cells #[.slice Ao43 t324.length co43, .slice Ao45 t327.length co45] 26 (0, 0)) (kU BK331.out) hb)
        replace BK338 := Aside0.mk (blk_below (g := gb338) (o := .cells #[.slice Ao51 t332.length co51, .slice Ao56 t335.length co56] 26 (0, 0)) (kU BK338.out) hb)
        replace BK345 := Aside0.mk (blk_below (g := gb345) (o := .cells #[.slice Ao61 t339.length co61, .slice Ao67 t342.length co67] 26 (0, 0)) (kU BK345.out) hb)
        replace BK353 := Aside0.mk (blk_below (g := gb353) (o := .cells #[.slice Ao71 t346.length co71, .slice Ao78 t349.length co78] 26 (0, 0)) (kU BK353.out) hb)
        replace HB := Aside0.mk (below_step (by repeat (first | (with_reducible first | exact HB.out | apply below_alloc | apply pw_below_drewN | apply below_drew1 | refine below_set ?_ GE308.out | refine below_set ?_ GE309.out | refine below_set ?_ GE331.out | refine below_set ?_ GE338.out | refine below_set ?_ GE345.out | refine below_set ?_ GE353.out) | exact HB.out)) hb)
        (try clear hb)
        (try clear hb2)
        (try clear hk)
        (try clear hi)
        refine hK.out _ _ ⟨(blk_cell BK345.out 0).trans rfl, (blk_cell BK345.out 1).trans rfl, (blk_cell BK309.out 0).trans rfl, (blk_cell BK309.out 1).trans rfl⟩ (fun hHeld => ?_)
        clear hK K
        refine norm_ (a' := ?_) ?_ ?_
        rotate_left
        ·
         show Act.put _ (some 62) _ = _
         simp only [Act.put, List.setIfInBounds_toArray, List.set_cons_zero, List.set_cons_succ, i64_w, i32_w]
         rfl
        refine pure_ (i := 4) (N := some 63) (v := ?_) (a' := ?_) #[true, true, true, true, true] rfl rfl (by kernel_rfl) (fun _ _ _ h => h) (Or.inl ⟨by rfl, ?_⟩) ?_ ?_
        rotate_left
        ·
         intro w'
         go_simp
         with_reducible rfl
        rotate_left
        ·
         simp only [Act.put, List.setIfInBounds_toArray, List.set_cons_zero, List.set_cons_succ, i64_w, i32_w]
         rfl
        refine done_ (by kernel_rfl) ?_
        have hnb113 := NB338_308.out
        have hnc113 := NB308_338.out
        have hnb114 := NB338_309.out
        have hnc114 := NB309_338.out
        have hnb115 := NB338_331.out
        have hnc115 := NB331_338.out
        have hnb116 := NB338_345.out
        have hnc116 := NB345_338.out
        have hnb117 := NB338_353.out
        have hnc117 := NB353_338.out
        have hcz118_0 : w112.cell? ⟨gb338, 0, none⟩ = some (.slice Ao51 t332.length co51) := (blk_cell BK338.out 0).trans rfl
        have hcz118_1 : w112.cell? ⟨gb338, 1, none⟩ = some (.slice Ao56 t335.length co56) := (blk_cell BK338.out 1).trans rfl
        have hfz118_0 := blk_frozen BK338.out 0
        have hfz118_1 := blk_frozen BK338.out 1
        go_upto_region 21 with (first | ((with_reducible refine gate_callee (f := 20) rfl ?_); refine goesL_ (some 66) rfl rfl Try.func20 (by kernel_rfl) rfl #[.agg #[.slice Ao51 t332.length co51, .slice Ao56 t335.length co56], .int .i64 1] rfl (by (try simp only [List.map_toArray, List.map_cons, List.map_nil]); first | done | rfl | (simp only [List.length_drop, List.length_take]; rfl)) ?_; (with_reducible refine (laws_markArray.calls kj24 (fun k_ => some k_ = (.slice Ao51 t332.length co51 : Value).ownBlock) (.slice Ao51 t332.length co51) t332 (fun k_ => some k_ = (.slice Ao56 t335.length co56 : Value).ownBlock) (.slice Ao56 t335.length co56) t335 1 t369 t370 t371 w _ ?side1 ?side2 ?side3 ?side4 ?side5 A100.out).mono ?_); (case side1 => repeat (first | (with_reducible first | exact HB.out | apply below_alloc | apply pw_below_drewN | apply below_drew1 | refine below_set ?_ GE308.out | refine below_set ?_ GE309.out | refine below_set ?_ GE331.out | refine below_set ?_ GE338.out | refine below_set ?_ GE345.out | refine below_set ?_ GE353.out) | exact HB.out)); (case side2 => exact Kd.R_tight rfl HO_339000.out); (case side3 => exact fun k_ e_ => (HO_339000.out.1 k_ e_.symm).1.1.1.1.2.2.1); (case side4 => exact Kd.R_tight rfl HO_339001.out); (case side5 => exact fun k_ e_ => (HO_339001.out.1 k_ e_.symm).1.1.1.1.2.2.1); rintro e w119 ⟨rfl, hy0, hy1, hb, hkp⟩; refine ⟨_, rfl, ?_⟩; replace HO_332000 := Aside0.mk (Kd.R_mono (ok' := fun k_ => some k_ ≠ (.slice Ao45 t327.length co45 : Value).ownBlock ∧ some k_ ≠ (.slice Ao51 t332.length co51 : Value).ownBlock ∧ some k_ ≠ (.slice Ao56 t335.length co56 : Value).ownBlock ∧ some k_ ≠ (.slice Ao61 t339.length co61 : Value).ownBlock ∧ some k_ ≠ (.slice Ao67 t342.length co67 : Value).ownBlock ∧ some k_ ≠ (.slice Ao71 t346.length co71 : Value).ownBlock ∧ some k_ ≠ (.slice Ao78 t349.length co78 : Value).ownBlock ∧ some k_ ≠ (.slice Ao105 t355.length co105 : Value).ownBlock ∧ some k_ ≠ (.slice Ao106 t358.length co106 : Value).ownBlock ∧ some k_ ≠ (.slice Ao110 t362.length co110 : Value).ownBlock ∧ some k_ ≠ (.slice Ao111 t365.length co111 : Value).ownBlock) (Kd.R_keptB (HO_332000.out) hkp (fun k_ hk_ hs_ => Or.elim hs_ (fun e_ => (hk_.1.1.1.1.2.1) e_) (fun e_ => (hk_.1.1.1.1.2.2.1) e_))) (fun k_ hk_ => ⟨hk_.1.1.1.1.1.1, hk_.1.1.1.1.1.2.1, hk_.1.1.1.1.1.2.2.1, hk_.1.1.1.1.1.2.2.2.1, hk_.1.1.1.1.1.2.2.2.2.1, hk_.1.1.1.1.1.2.2.2.2.2.1, hk_.1.1.1.1.1.2.2.2.2.2.2, hk_.1.1.1.1.2, hk_.1.1.1.2, hk_.1.1.2, hk_.1.2⟩)); replace HO_332001 := Aside0.mk (Kd.R_mono (ok' := fun k_ => some k_ ≠ (.slice Ao43 t324.length co43 : Value).ownBlock ∧ some k_ ≠ (.slice Ao51 t332.length co51 : Value).ownBlock ∧ some k_ ≠ (.slice Ao56 t335.length co56 : Value).ownBlock ∧ some k_ ≠ (.slice Ao61 t339.length co61 : Value).ownBlock ∧ some k_ ≠ (.slice Ao67 t342.length co67 : Value).ownBlock ∧ some k_ ≠ (.slice Ao71 t346.length co71 : Value).ownBlock ∧ some k_ ≠ (.slice Ao78 t349.length co78 : Value).ownBlock ∧ some k_ ≠ (.slice Ao105 t355.length co105 : Value).ownBlock ∧ some k_ ≠ (.slice Ao106 t358.length co106 : Value).ownBlock ∧ some k_ ≠ (.slice Ao110 t362.length co110 : Value).ownBlock ∧ some k_ ≠ (.slice Ao111 t365.length co111 : Value).ownBlock) (Kd.R_keptB (HO_332001.out) hkp (fun k_ hk_ hs_ => Or.elim hs_ (fun e_ => (hk_.1.1.1.1.2.1) e_) (fun e_ => (hk_.1.1.1.1.2.2.1) e_))) (fun k_ hk_ => ⟨hk_.1.1.1.1.1.1, hk_.1.1.1.1.1.2.1, hk_.1.1.1.1.1.2.2.1, hk_.1.1.1.1.1.2.2.2.1, hk_.1.1.1.1.1.2.2.2.2.1, hk_.1.1.1.1.1.2.2.2.2.2.1, hk_.1.1.1.1.1.2.2.2.2.2.2, hk_.1.1.1.1.2, hk_.1.1.1.2, hk_.1.1.2, hk_.1.2⟩)); replace HO_346000 := Aside0.mk (Kd.R_mono (ok' := fun k_ => some k_ ≠ (.slice Ao43 t324.length co43 : Value).ownBlock ∧ some k_ ≠ (.slice Ao45 t327.length co45 : Value).ownBlock ∧ some k_ ≠ (.slice Ao51 t332.length co51 : Value).ownBlock ∧ some k_ ≠ (.slice Ao56 t335.length co56 : Value).ownBlock ∧ some k_ ≠ (.slice Ao67 t342.length co67 : Value).ownBlock ∧ some k_ ≠ (.slice Ao71 t346.length co71 : Value).ownBlock ∧ some k_ ≠ (.slice Ao78 t349.length co78 : Value).ownBlock ∧ some k_ ≠ (.slice Ao105 t355.length co105 : Value).ownBlock ∧ some k_ ≠ (.slice Ao106 t358.length co106 : Value).ownBlock ∧ some k_ ≠ (.slice Ao110 t362.length co110 : Value).ownBlock ∧ some k_ ≠ (.slice Ao111 t365.length co111 : Value).ownBlock) (Kd.R_keptB (HO_346000.out) hkp (fun k_ hk_ hs_ => Or.elim hs_ (fun e_ => (hk_.1.1.1.1.2.2.1) e_) (fun e_ => (hk_.1.1.1.1.2.2.2.1) e_))) (fun k_ hk_ => ⟨hk_.1.1.1.1.1.1, hk_.1.1.1.1.1.2.1, hk_.1.1.1.1.1.2.2.1, hk_.1.1.1.1.1.2.2.2.1, hk_.1.1.1.1.1.2.2.2.2.1, hk_.1.1.1.1.1.2.2.2.2.2.1, hk_.1.1.1.1.1.2.2.2.2.2.2, hk_.1.1.1.1.2, hk_.1.1.1.2, hk_.1.1.2, hk_.1.2⟩)); replace HO_346001 := Aside0.mk (Kd.R_mono (ok' := fun k_ => some k_ ≠ (.slice Ao43 t324.length co43 : Value).ownBlock ∧ some k_ ≠ (.slice Ao45 t327.length co45 : Value).ownBlock ∧ some k_ ≠ (.slice Ao51 t332.length co51 : Value).ownBlock ∧ some k_ ≠ (.slice Ao56 t335.length co56 : Value).ownBlock ∧ some k_ ≠ (.slice Ao61 t339.length co61 : Value).ownBlock ∧ some k_ ≠ (.slice Ao71 t346.length co71 : Value).ownBlock ∧ some k_ ≠ (.slice Ao78 t349.length co78 : Value).ownBlock ∧ some k_ ≠ (.slice Ao105 t355.length co105 : Value).ownBlock ∧ some k_ ≠ (.slice Ao106 t358.length co106 : Value).ownBlock ∧ some k_ ≠ (.slice Ao110 t362.length co110 : Value).ownBlock ∧ some k_ ≠ (.slice Ao111 t365.length co111 : Value).ownBlock) (Kd.R_keptB (HO_346001.out) hkp (fun k_ hk_ hs_ => Or.elim hs_ (fun e_ => (hk_.1.1.1.1.2.2.1) e_) (fun e_ => (hk_.1.1.1.1.2.2.2.1) e_))) (fun k_ hk_ => ⟨hk_.1.1.1.1.1.1, hk_.1.1.1.1.1.2.1, hk_.1.1.1.1.1.2.2.1, hk_.1.1.1.1.1.2.2.2.1, hk_.1.1.1.1.1.2.2.2.2.1, hk_.1.1.1.1.1.2.2.2.2.2.1, hk_.1.1.1.1.1.2.2.2.2.2.2, hk_.1.1.1.1.2, hk_.1.1.1.2, hk_.1.1.2, hk_.1.2⟩)); replace HO_354000 := Aside0.mk (Kd.R_mono (ok' := fun k_ => some k_ ≠ (.slice Ao43 t324.length co43 : Value).ownBlock ∧ some k_ ≠ (.slice Ao45 t327.length co45 : Value).ownBlock ∧ some k_ ≠ (.slice Ao51 t332.length co51 : Value).ownBlock ∧ some k_ ≠ (.slice Ao56 t335.length co56 : Value).ownBlock ∧ some k_ ≠ (.slice Ao61 t339.length co61 : Value).ownBlock ∧ some k_ ≠ (.slice Ao67 t342.length co67 : Value).ownBlock ∧ some k_ ≠ (.slice Ao78 t349.length co78 : Value).ownBlock ∧ some k_ ≠ (.slice Ao105 t355.length co105 : Value).ownBlock ∧ some k_ ≠ (.slice Ao106 t358.length co106 : Value).ownBlock ∧ some k_ ≠ (.slice Ao110 t362.length co110 : Value).ownBlock ∧ some k_ ≠ (.slice Ao111 t365.length co111 : Value).ownBlock) (Kd.R_keptB (HO_354000.out) hkp (fun k_ hk_ hs_ => Or.elim hs_ (fun e_ => (hk_.1.1.1.1.2.2.1) e_) (fun e_ => (hk_.1.1.1.1.2.2.2.1) e_))) (fun k_ hk_ => ⟨hk_.1.1.1.1.1.1, hk_.1.1.1.1.1.2.1, hk_.1.1.1.1.1.2.2.1, hk_.1.1.1.1.1.2.2.2.1, hk_.1.1.1.1.1.2.2.2.2.1, hk_.1.1.1.1.1.2.2.2.2.2.1, hk_.1.1.1.1.1.2.2.2.2.2.2, hk_.1.1.1.1.2, hk_.1.1.1.2, hk_.1.1.2, hk_.1.2⟩)); replace HO_354001 := Aside0.mk (Kd.R_mono (ok' := fun k_ => some k_ ≠ (.slice Ao43 t324.length co43 : Value).ownBlock ∧ some k_ ≠ (.slice Ao45 t327.length co45 : Value).ownBlock ∧ some k_ ≠ (.slice Ao51 t332.length co51 : Value).ownBlock ∧ some k_ ≠ (.slice Ao56 t335.length co56 : Value).ownBlock ∧ some k_ ≠ (.slice Ao61 t339.length co61 : Value).ownBlock ∧ some k_ ≠ (.slice Ao67 t342.length co67 : Value).ownBlock ∧ some k_ ≠ (.slice Ao71 t346.length co71 : Value).ownBlock ∧ some k_ ≠ (.slice Ao105 t355.length co105 : Value).ownBlock ∧ some k_ ≠ (.slice Ao106 t358.length co106 : Value).ownBlock ∧ some k_ ≠ (.slice Ao110 t362.length co110 : Value).ownBlock ∧ some k_ ≠ (.slice Ao111 t365.length co111 : Value).ownBlock) (Kd.R_keptB (HO_354001.out) hkp (fun k_ hk_ hs_ => Or.elim hs_ (fun e_ => (hk_.1.1.1.1.2.2.1) e_) (fun e_ => (hk_.1.1.1.1.2.2.2.1) e_))) (fun k_ hk_ => ⟨hk_.1.1.1.1.1.1, hk_.1.1.1.1.1.2.1, hk_.1.1.1.1.1.2.2.1, hk_.1.1.1.1.1.2.2.2.1, hk_.1.1.1.1.1.2.2.2.2.1, hk_.1.1.1.1.1.2.2.2.2.2.1, hk_.1.1.1.1.1.2.2.2.2.2.2, hk_.1.1.1.1.2, hk_.1.1.1.2, hk_.1.1.2, hk_.1.2⟩)); replace BK308 := Aside0.mk (blk_kept (kU BK308.out) hkp (fun hs_ => Or.elim hs_ (fun e_ => (fun e_ => (Kd.R_ne HO_339000.out BK308.out (by decide)) e_) e_) (fun e_ => (fun e_ => (Kd.R_ne HO_339001.out BK308.out (by decide)) e_) e_))); replace BK309 := Aside0.mk (blk_kept (kU BK309.out) hkp (fun hs_ => Or.elim hs_ (fun e_ => (fun e_ => (Kd.R_ne HO_339000.out BK309.out (by decide)) e_) e_) (fun e_ => (fun e_ => (Kd.R_ne HO_339001.out BK309.out (by decide)) e_) e_))); replace BK331 := Aside0.mk (blk_kept (kU BK331.out) hkp (fun hs_ => Or.elim hs_ (fun e_ => (fun e_ => (Kd.R_ne HO_339000.out BK331.out (by decide)) e_) e_) (fun e_ => (fun e_ => (Kd.R_ne HO_339001.out BK331.out (by decide)) e_) e_))); replace BK338 := Aside0.mk (blk_kept (kU BK338.out) hkp (fun hs_ => Or.elim hs_ (fun e_ => (fun e_ => (Kd.R_ne HO_339000.out BK338.out (by decide)) e_) e_) (fun e_ => (fun e_ => (Kd.R_ne HO_339001.out BK338.out (by decide)) e_) e_))); replace BK345 := Aside0.mk (blk_kept (kU BK345.out) hkp (fun hs_ => Or.elim hs_ (fun e_ => (fun e_ => (Kd.R_ne HO_339000.out BK345.out (by decide)) e_) e_) (fun e_ => (fun e_ => (Kd.R_ne HO_339001.out BK345.out (by decide)) e_) e_))); replace BK353 := Aside0.mk (blk_kept (kU BK353.out) hkp (fun hs_ => Or.elim hs_ (fun e_ => (fun e_ => (Kd.R_ne HO_339000.out BK353.out (by decide)) e_) e_) (fun e_ => (fun e_ => (Kd.R_ne HO_339001.out BK353.out (by decide)) e_) e_))); replace HO_339000 := Aside0.mk (Kd.R_reok rfl hy0 (fun k_ e_ => HO_339000.out.1 k_ e_)); replace HO_339001 := Aside0.mk (Kd.R_reok rfl hy1 (fun k_ e_ => HO_339001.out.1 k_ e_)); replace HO357 := Aside0.mk (Kd.R_mono (ok' := fun k_ => some k_ ≠ (.slice Ao43 t324.length co43 : Value).ownBlock ∧ some k_ ≠ (.slice Ao45 t327.length co45 : Value).ownBlock ∧ some k_ ≠ (.slice Ao51 t332.length co51 : Value).ownBlock ∧ some k_ ≠ (.slice Ao56 t335.length co56 : Value).ownBlock ∧ some k_ ≠ (.slice Ao61 t339.length co61 : Value).ownBlock ∧ some k_ ≠ (.slice Ao67 t342.length co67 : Value).ownBlock ∧ some k_ ≠ (.slice Ao71 t346.length co71 : Value).ownBlock ∧ some k_ ≠ (.slice Ao78 t349.length co78 : Value).ownBlock ∧ some k_ ≠ (.slice Ao106 t358.length co106 : Value).ownBlock ∧ some k_ ≠ (.slice Ao110 t362.length co110 : Value).ownBlock ∧ some k_ ≠ (.slice Ao111 t365.length co111 : Value).ownBlock) (Kd.R_keptB (HO357.out) hkp (fun k_ hk_ hs_ => Or.elim hs_ (fun e_ => (hk_.1.1.1.1.1.1.1.2) e_) (fun e_ => (hk_.1.1.1.1.1.1.2) e_))) (fun k_ hk_ => ⟨hk_.1.1.1.1.1.1.1.1.1.1.2, hk_.1.1.1.1.1.1.1.1.1.2, hk_.1.1.1.1.1.1.1.1.2, hk_.1.1.1.1.1.1.1.2, hk_.1.1.1.1.1.1.2, hk_.1.1.1.1.1.2, hk_.1.1.1.1.2, hk_.1.1.1.2, hk_.1.1.1.1.1.1.1.1.1.1.1, hk_.1.1.2, hk_.1.2⟩)); replace HO360 := Aside0.mk (Kd.R_mono (ok' := fun k_ => some k_ ≠ (.slice Ao43 t324.length co43 : Value).ownBlock ∧ some k_ ≠ (.slice Ao45 t327.length co45 : Value).ownBlock ∧ some k_ ≠ (.slice Ao51 t332.length co51 : Value).ownBlock ∧ some k_ ≠ (.slice Ao56 t335.length co56 : Value).ownBlock ∧ some k_ ≠ (.slice Ao61 t339.length co61 : Value).ownBlock ∧ some k_ ≠ (.slice Ao67 t342.length co67 : Value).ownBlock ∧ some k_ ≠ (.slice Ao71 t346.length co71 : Value).ownBlock ∧ some k_ ≠ (.slice Ao78 t349.length co78 : Value).ownBlock ∧ some k_ ≠ (.slice Ao105 t355.length co105 : Value).ownBlock ∧ some k_ ≠ (.slice Ao110 t362.length co110 : Value).ownBlock ∧ some k_ ≠ (.slice Ao111 t365.length co111 : Value).ownBlock) (Kd.R_keptB (HO360.out) hkp (fun k_ hk_ hs_ => Or.elim hs_ (fun e_ => (hk_.1.1.1.1.1.1.1.2) e_) (fun e_ => (hk_.1.1.1.1.1.1.2) e_))) (fun k_ hk_ => ⟨hk_.1.1.1.1.1.1.1.1.1.1.2, hk_.1.1.1.1.1.1.1.1.1.2, hk_.1.1.1.1.1.1.1.1.2, hk_.1.1.1.1.1.1.1.2, hk_.1.1.1.1.1.1.2, hk_.1.1.1.1.1.2, hk_.1.1.1.1.2, hk_.1.1.1.2, hk_.1.1.1.1.1.1.1.1.1.1.1, hk_.1.1.2, hk_.1.2⟩)); replace HO364 := Aside0.mk (Kd.R_mono (ok' := fun k_ => some k_ ≠ (.slice Ao43 t324.length co43 : Value).ownBlock ∧ some k_ ≠ (.slice Ao45 t327.length co45 : Value).ownBlock ∧ some k_ ≠ (.slice Ao51 t332.length co51 : Value).ownBlock ∧ some k_ ≠ (.slice Ao56 t335.length co56 : Value).ownBlock ∧ some k_ ≠ (.slice Ao61 t339.length co61 : Value).ownBlock ∧ some k_ ≠ (.slice Ao67 t342.length co67 : Value).ownBlock ∧ some k_ ≠ (.slice Ao71 t346.length co71 : Value).ownBlock ∧ some k_ ≠ (.slice Ao78 t349.length co78 : Value).ownBlock ∧ some k_ ≠ (.slice Ao105 t355.length co105 : Value).ownBlock ∧ some k_ ≠ (.slice Ao106 t358.length co106 : Value).ownBlock ∧ some k_ ≠ (.slice Ao111 t365.length co111 : Value).ownBlock) (Kd.R_keptB (HO364.out) hkp (fun k_ hk_ hs_ => Or.elim hs_ (fun e_ => (hk_.1.1.1.1.1.1.1.2) e_) (fun e_ => (hk_.1.1.1.1.1.1.2) e_))) (fun k_ hk_ => ⟨hk_.1.1.1.1.1.1.1.1.1.1.2, hk_.1.1.1.1.1.1.1.1.1.2, hk_.1.1.1.1.1.1.1.1.2, hk_.1.1.1.1.1.1.1.2, hk_.1.1.1.1.1.1.2, hk_.1.1.1.1.1.2, hk_.1.1.1.1.2, hk_.1.1.1.2, hk_.1.1.2, hk_.1.2, hk_.1.1.1.1.1.1.1.1.1.1.1⟩)); replace HO367 := Aside0.mk (Kd.R_mono (ok' := fun k_ => some k_ ≠ (.slice Ao43 t324.length co43 : Value).ownBlock ∧ some k_ ≠ (.slice Ao45 t327.length co45 : Value).ownBlock ∧ some k_ ≠ (.slice Ao51 t332.length co51 : Value).ownBlock ∧ some k_ ≠ (.slice Ao56 t335.length co56 : Value).ownBlock ∧ some k_ ≠ (.slice Ao61 t339.length co61 : Value).ownBlock ∧ some k_ ≠ (.slice Ao67 t342.length co67 : Value).ownBlock ∧ some k_ ≠ (.slice Ao71 t346.length co71 : Value).ownBlock ∧ some k_ ≠ (.slice Ao78 t349.length co78 : Value).ownBlock ∧ some k_ ≠ (.slice Ao105 t355.length co105 : Value).ownBlock ∧ some k_ ≠ (.slice Ao106 t358.length co106 : Value).ownBlock ∧ some k_ ≠ (.slice Ao110 t362.length co110 : Value).ownBlock) (Kd.R_keptB (HO367.out) hkp (fun k_ hk_ hs_ => Or.elim hs_ (fun e_ => (hk_.1.1.1.1.1.1.1.2) e_) (fun e_ => (hk_.1.1.1.1.1.1.2) e_))) (fun k_ hk_ => ⟨hk_.1.1.1.1.1.1.1.1.1.1.2, hk_.1.1.1.1.1.1.1.1.1.2, hk_.1.1.1.1.1.1.1.1.2, hk_.1.1.1.1.1.1.1.2, hk_.1.1.1.1.1.1.2, hk_.1.1.1.1.1.2, hk_.1.1.1.1.2, hk_.1.1.1.2, hk_.1.1.2, hk_.1.2, hk_.1.1.1.1.1.1.1.1.1.1.1⟩)); replace HB := Aside0.mk (hb); (try clear hb); (try clear hkp); (try clear hy0); (try clear hy1); have hnb120 := NB345_308.out; have hnc120 := NB308_345.out; have hnb121 := NB345_309.out; have hnc121 := NB309_345.out; have hnb122 := NB345_331.out; have hnc122 := NB331_345.out; have hnb123 := NB345_353.out; have hnc123 := NB353_345.out; have hcz124_0 : w119.cell? ⟨gb345, 0, none⟩ = some (.slice Ao61 t339.length co61) := (blk_cell BK345.out 0).trans rfl; have hcz124_1 : w119.cell? ⟨gb345, 1, none⟩ = some (.slice Ao67 t342.length co67) := (blk_cell BK345.out 1).trans rfl; have hfz124_0 := blk_frozen BK345.out 0; have hfz124_1 := blk_frozen BK345.out 1) | ((with_reducible refine gate_callee (f := 20) rfl ?_); refine goesL_ (some 69) rfl rfl Try.func20 (by kernel_rfl) rfl #[.agg #[.slice Ao61 t339.length co61, .slice Ao67 t342.length co67], .int .i64 t369] rfl (by (try simp only [List.map_toArray, List.map_cons, List.map_nil]); first | done | rfl | (simp only [List.length_drop, List.length_take]; rfl)) ?_; (with_reducible refine (laws_markArray.calls kj24 (fun k_ => some k_ = (.slice Ao61 t339.length co61 : Value).ownBlock) (.slice Ao61 t339.length co61) t339 (fun k_ => some k_ = (.slice Ao67 t342.length co67 : Value).ownBlock) (.slice Ao67 t342.length co67) t342 t369 t372 t373 t374 w _ ?side1 ?side2 ?side3 ?side4 ?side5 A101.out).mono ?_); (case side1 => repeat (first | (with_reducible first | exact HB.out | apply below_alloc | apply pw_below_drewN | apply below_drew1 | refine below_set ?_ GE308.out | refine below_set ?_ GE309.out | refine below_set ?_ GE331.out | refine below_set ?_ GE338.out | refine below_set ?_ GE345.out | refine below_set ?_ GE353.out) | exact HB.out)); (case side2 => exact Kd.R_tight rfl HO_346000.out); (case side3 => exact fun k_ e_ => (HO_346000.out.1 k_ e_.symm).2.2.2.2.1); (case side4 => exact Kd.R_tight rfl HO_346001.out); (case side5 => exact fun k_ e_ => (HO_346001.out.1 k_ e_.symm).2.2.2.2.1); rintro e w125 ⟨rfl, hy0, hy1, hb, hkp⟩; refine ⟨_, rfl, ?_⟩; replace HO_332000 := Aside0.mk (Kd.R_mono (ok' := fun k_ => some k_ ≠ (.slice Ao45 t327.length co45 : Value).ownBlock ∧ some k_ ≠ (.slice Ao51 t332.length co51 : Value).ownBlock ∧ some k_ ≠ (.slice Ao56 t335.length co56 : Value).ownBlock ∧ some k_ ≠ (.slice Ao61 t339.length co61 : Value).ownBlock ∧ some k_ ≠ (.slice Ao67 t342.length co67 : Value).ownBlock ∧ some k_ ≠ (.slice Ao71 t346.length co71 : Value).ownBlock ∧ some k_ ≠ (.slice Ao78 t349.length co78 : Value).ownBlock ∧ some k_ ≠ (.slice Ao105 t355.length co105 : Value).ownBlock ∧ some k_ ≠ (.slice Ao106 t358.length co106 : Value).ownBlock ∧ some k_ ≠ (.slice Ao110 t362.length co110 : Value).ownBlock ∧ some k_ ≠ (.slice Ao111 t365.length co111 : Value).ownBlock) (Kd.R_keptB (HO_332000.out) hkp (fun k_ hk_ hs_ => Or.elim hs_ (fun e_ => (hk_.2.2.2.1) e_) (fun e_ => (hk_.2.2.2.2.1) e_))) (fun k_ hk_ => ⟨hk_.1.1, hk_.1.2.1, hk_.1.2.2.1, hk_.1.2.2.2.1, hk_.1.2.2.2.2.1, hk_.1.2.2.2.2.2.1, hk_.1.2.2.2.2.2.2.1, hk_.1.2.2.2.2.2.2.2.1, hk_.1.2.2.2.2.2.2.2.2.1, hk_.1.2.2.2.2.2.2.2.2.2.1, hk_.1.2.2.2.2.2.2.2.2.2.2⟩)); replace HO_332001 := Aside0.mk (Kd.R_mono (ok' := fun k_ => some k_ ≠ (.slice Ao43 t324.length co43 : Value).ownBlock ∧ some k_ ≠ (.slice Ao51 t332.length co51 : Value).ownBlock ∧ some k_ ≠ (.slice Ao56 t335.length co56 : Value).ownBlock ∧ some k_ ≠ (.slice Ao61 t339.length co61 : Value).ownBlock ∧ some k_ ≠ (.slice Ao67 t342.length co67 : Value).ownBlock ∧ some k_ ≠ (.slice Ao71 t346.length co71 : Value).ownBlock ∧ some k_ ≠ (.slice Ao78 t349.length co78 : Value).ownBlock ∧ some k_ ≠ (.slice Ao105 t355.length co105 : Value).ownBlock ∧ some k_ ≠ (.slice Ao106 t358.length co106 : Value).ownBlock ∧ some k_ ≠ (.slice Ao110 t362.length co110 : Value).ownBlock ∧ some k_ ≠ (.slice Ao111 t365.length co111 : Value).ownBlock) (Kd.R_keptB (HO_332001.out) hkp (fun k_ hk_ hs_ => Or.elim hs_ (fun e_ => (hk_.2.2.2.1) e_) (fun e_ => (hk_.2.2.2.2.1) e_))) (fun k_ hk_ => ⟨hk_.1.1, hk_.1.2.1, hk_.1.2.2.1, hk_.1.2.2.2.1, hk_.1.2.2.2.2.1, hk_.1.2.2.2.2.2.1, hk_.1.2.2.2.2.2.2.1, hk_.1.2.2.2.2.2.2.2.1, hk_.1.2.2.2.2.2.2.2.2.1, hk_.1.2.2.2.2.2.2.2.2.2.1, hk_.1.2.2.2.2.2.2.2.2.2.2⟩)); replace HO_339000 := Aside0.mk (Kd.R_mono (ok' := fun k_ => some k_ ≠ (.slice Ao43 t324.length co43 : Value).ownBlock ∧ some k_ ≠ (.slice Ao45 t327.length co45 : Value).ownBlock ∧ some k_ ≠ (.slice Ao56 t335.length co56 : Value).ownBlock ∧ some k_ ≠ (.slice Ao61 t339.length co61 : Value).ownBlock ∧ some k_ ≠ (.slice Ao67 t342.length co67 : Value).ownBlock ∧ some k_ ≠ (.slice Ao71 t346.length co71 : Value).ownBlock ∧ some k_ ≠ (.slice Ao78 t349.length co78 : Value).ownBlock ∧ some k_ ≠ (.slice Ao105 t355.length co105 : Value).ownBlock ∧ some k_ ≠ (.slice Ao106 t358.length co106 : Value).ownBlock ∧ some k_ ≠ (.slice Ao110 t362.length co110 : Value).ownBlock ∧ some k_ ≠ (.slice Ao111 t365.length co111 : Value).ownBlock) (Kd.R_keptB (HO_339000.out) hkp (fun k_ hk_ hs_ => Or.elim hs_ (fun e_ => (hk_.1.1.1.1.2.2.2.1) e_) (fun e_ => (hk_.1.1.1.1.2.2.2.2.1) e_))) (fun k_ hk_ => ⟨hk_.1.1.1.1.1.1, hk_.1.1.1.1.1.2.1, hk_.1.1.1.1.1.2.2.1, hk_.1.1.1.1.1.2.2.2.1, hk_.1.1.1.1.1.2.2.2.2.1, hk_.1.1.1.1.1.2.2.2.2.2.1, hk_.1.1.1.1.1.2.2.2.2.2.2, hk_.1.1.1.1.2, hk_.1.1.1.2, hk_.1.1.2, hk_.1.2⟩)); replace HO_339001 := Aside0.mk (Kd.R_mono (ok' := fun k_ => some k_ ≠ (.slice Ao43 t324.length co43 : Value).ownBlock ∧ some k_ ≠ (.slice Ao45 t327.length co45 : Value).ownBlock ∧ some k_ ≠ (.slice Ao51 t332.length co51 : Value).ownBlock ∧ some k_ ≠ (.slice Ao61 t339.length co61 : Value).ownBlock ∧ some k_ ≠ (.slice Ao67 t342.length co67 : Value).ownBlock ∧ some k_ ≠ (.slice Ao71 t346.length co71 : Value).ownBlock ∧ some k_ ≠ (.slice Ao78 t349.length co78 : Value).ownBlock ∧ some k_ ≠ (.slice Ao105 t355.length co105 : Value).ownBlock ∧ some k_ ≠ (.slice Ao106 t358.length co106 : Value).ownBlock ∧ some k_ ≠ (.slice Ao110 t362.length co110 : Value).ownBlock ∧ some k_ ≠ (.slice Ao111 t365.length co111 : Value).ownBlock) (Kd.R_keptB (HO_339001.out) hkp (fun k_ hk_ hs_ => Or.elim hs_ (fun e_ => (hk_.1.1.1.1.2.2.2.1) e_) (fun e_ => (hk_.1.1.1.1.2.2.2.2.1) e_))) (fun k_ hk_ => ⟨hk_.1.1.1.1.1.1, hk_.1.1.1.1.1.2.1, hk_.1.1.1.1.1.2.2.1, hk_.1.1.1.1.1.2.2.2.1, hk_.1.1.1.1.1.2.2.2.2.1, hk_.1.1.1.1.1.2.2.2.2.2.1, hk_.1.1.1.1.1.2.2.2.2.2.2, hk_.1.1.1.1.2, hk_.1.1.1.2, hk_.1.1.2, hk_.1.2⟩)); replace HO_354000 := Aside0.mk (Kd.R_mono (ok' := fun k_ => some k_ ≠ (.slice Ao43 t324.length co43 : Value).ownBlock ∧ some k_ ≠ (.slice Ao45 t327.length co45 : Value).ownBlock ∧ some k_ ≠ (.slice Ao51 t332.length co51 : Value).ownBlock ∧ some k_ ≠ (.slice Ao56 t335.length co56 : Value).ownBlock ∧ some k_ ≠ (.slice Ao61 t339.length co61 : Value).ownBlock ∧ some k_ ≠ (.slice Ao67 t342.length co67 : Value).ownBlock ∧ some k_ ≠ (.slice Ao78 t349.length co78 : Value).ownBlock ∧ some k_ ≠ (.slice Ao105 t355.length co105 : Value).ownBlock ∧ some k_ ≠ (.slice Ao106 t358.length co106 : Value).ownBlock ∧ some k_ ≠ (.slice Ao110 t362.length co110 : Value).ownBlock ∧ some k_ ≠ (.slice Ao111 t365.length co111 : Value).ownBlock) (Kd.R_keptB (HO_354000.out) hkp (fun k_ hk_ hs_ => Or.elim hs_ (fun e_ => (hk_.2.2.2.2.1) e_) (fun e_ => (hk_.2.2.2.2.2.1) e_))) (fun k_ hk_ => ⟨hk_.1.1, hk_.1.2.1, hk_.1.2.2.1, hk_.1.2.2.2.1, hk_.1.2.2.2.2.1, hk_.1.2.2.2.2.2.1, hk_.1.2.2.2.2.2.2.1, hk_.1.2.2.2.2.2.2.2.1, hk_.1.2.2.2.2.2.2.2.2.1, hk_.1.2.2.2.2.2.2.2.2.2.1, hk_.1.2.2.2.2.2.2.2.2.2.2⟩)); replace HO_354001 := Aside0.mk (Kd.R_mono (ok' := fun k_ => some k_ ≠ (.slice Ao43 t324.length co43 : Value).ownBlock ∧ some k_ ≠ (.slice Ao45 t327.length co45 : Value).ownBlock ∧ some k_ ≠ (.slice Ao51 t332.length co51 : Value).ownBlock ∧ some k_ ≠ (.slice Ao56 t335.length co56 : Value).ownBlock ∧ some k_ ≠ (.slice Ao61 t339.length co61 : Value).ownBlock ∧ some k_ ≠ (.slice Ao67 t342.length co67 : Value).ownBlock ∧ some k_ ≠ (.slice Ao71 t346.length co71 : Value).ownBlock ∧ some k_ ≠ (.slice Ao105 t355.length co105 : Value).ownBlock ∧ some k_ ≠ (.slice Ao106 t358.length co106 : Value).ownBlock ∧ some k_ ≠ (.slice Ao110 t362.length co110 : Value).ownBlock ∧ some k_ ≠ (.slice Ao111 t365.length co111 : Value).ownBlock) (Kd.R_keptB (HO_354001.out) hkp (fun k_ hk_ hs_ => Or.elim hs_ (fun e_ => (hk_.2.2.2.2.1) e_) (fun e_ => (hk_.2.2.2.2.2.1) e_))) (fun k_ hk_ => ⟨hk_.1.1, hk_.1.2.1, hk_.1.2.2.1, hk_.1.2.2.2.1, hk_.1.2.2.2.2.1, hk_.1.2.2.2.2.2.1, hk_.1.2.2.2.2.2.2.1, hk_.1.2.2.2.2.2.2.2.1, hk_.1.2.2.2.2.2.2.2.2.1, hk_.1.2.2.2.2.2.2.2.2.2.1, hk_.1.2.2.2.2.2.2.2.2.2.2⟩)); replace BK308 := Aside0.mk (blk_kept (kU BK308.out) hkp (fun hs_ => Or.elim hs_ (fun e_ => (fun e_ => (Kd.R_ne HO_346000.out BK308.out (by decide)) e_) e_) (fun e_ => (fun e_ => (Kd.R_ne HO_346001.out BK308.out (by decide)) e_) e_))); replace BK309 := Aside0.mk (blk_kept (kU BK309.out) hkp (fun hs_ => Or.elim hs_ (fun e_ => (fun e_ => (Kd.R_ne HO_346000.out BK309.out (by decide)) e_) e_) (fun e_ => (fun e_ => (Kd.R_ne HO_346001.out BK309.out (by decide)) e_) e_))); replace BK331 := Aside0.mk (blk_kept (kU BK331.out) hkp (fun hs_ => Or.elim hs_ (fun e_ => (fun e_ => (Kd.R_ne HO_346000.out BK331.out (by decide)) e_) e_) (fun e_ => (fun e_ => (Kd.R_ne HO_346001.out BK331.out (by decide)) e_) e_))); replace BK338 := Aside0.mk (blk_kept (kU BK338.out) hkp (fun hs_ => Or.elim hs_ (fun e_ => (fun e_ => (Kd.R_ne HO_346000.out BK338.out (by decide)) e_) e_) (fun e_ => (fun e_ => (Kd.R_ne HO_346001.out BK338.out (by decide)) e_) e_))); replace BK345 := Aside0.mk (blk_kept (kU BK345.out) hkp (fun hs_ => Or.elim hs_ (fun e_ => (fun e_ => (Kd.R_ne HO_346000.out BK345.out (by decide)) e_) e_) (fun e_ => (fun e_ => (Kd.R_ne HO_346001.out BK345.out (by decide)) e_) e_))); replace BK353 := Aside0.mk (blk_kept (kU BK353.out) hkp (fun hs_ => Or.elim hs_ (fun e_ => (fun e_ => (Kd.R_ne HO_346000.out BK353.out (by decide)) e_) e_) (fun e_ => (fun e_ => (Kd.R_ne HO_346001.out BK353.out (by decide)) e_) e_))); replace HO_346000 := Aside0.mk (Kd.R_reok rfl hy0 (fun k_ e_ => HO_346000.out.1 k_ e_)); replace HO_346001 := Aside0.mk (Kd.R_reok rfl hy1 (fun k_ e_ => HO_346001.out.1 k_ e_)); replace HO357 := Aside0.mk (Kd.R_mono (ok' := fun k_ => some k_ ≠ (.slice Ao43 t324.length co43 : Value).ownBlock ∧ some k_ ≠ (.slice Ao45 t327.length co45 : Value).ownBlock ∧ some k_ ≠ (.slice Ao51 t332.length co51 : Value).ownBlock ∧ some k_ ≠ (.slice Ao56 t335.length co56 : Value).ownBlock ∧ some k_ ≠ (.slice Ao61 t339.length co61 : Value).ownBlock ∧ some k_ ≠ (.slice Ao67 t342.length co67 : Value).ownBlock ∧ some k_ ≠ (.slice Ao71 t346.length co71 : Value).ownBlock ∧ some k_ ≠ (.slice Ao78 t349.length co78 : Value).ownBlock ∧ some k_ ≠ (.slice Ao106 t358.length co106 : Value).ownBlock ∧ some k_ ≠ (.slice Ao110 t362.length co110 : Value).ownBlock ∧ some k_ ≠ (.slice Ao111 t365.length co111 : Value).ownBlock) (Kd.R_keptB (HO357.out) hkp (fun k_ hk_ hs_ => Or.elim hs_ (fun e_ => (hk_.2.2.2.2.1) e_) (fun e_ => (hk_.2.2.2.2.2.1) e_))) (fun k_ hk_ => ⟨hk_.1.1, hk_.1.2.1, hk_.1.2.2.1, hk_.1.2.2.2.1, hk_.1.2.2.2.2.1, hk_.1.2.2.2.2.2.1, hk_.1.2.2.2.2.2.2.1, hk_.1.2.2.2.2.2.2.2.1, hk_.1.2.2.2.2.2.2.2.2.1, hk_.1.2.2.2.2.2.2.2.2.2.1, hk_.1.2.2.2.2.2.2.2.2.2.2⟩)); replace HO360 := Aside0.mk (Kd.R_mono (ok' := fun k_ => some k_ ≠ (.slice Ao43 t324.length co43 : Value).ownBlock ∧ some k_ ≠ (.slice Ao45 t327.length co45 : Value).ownBlock ∧ some k_ ≠ (.slice Ao51 t332.length co51 : Value).ownBlock ∧ some k_ ≠ (.slice Ao56 t335.length co56 : Value).ownBlock ∧ some k_ ≠ (.slice Ao61 t339.length co61 : Value).ownBlock ∧ some k_ ≠ (.slice Ao67 t342.length co67 : Value).ownBlock ∧ some k_ ≠ (.slice Ao71 t346.length co71 : Value).ownBlock ∧ some k_ ≠ (.slice Ao78 t349.length co78 : Value).ownBlock ∧ some k_ ≠ (.slice Ao105 t355.length co105 : Value).ownBlock ∧ some k_ ≠ (.slice Ao110 t362.length co110 : Value).ownBlock ∧ some k_ ≠ (.slice Ao111 t365.length co111 : Value).ownBlock) (Kd.R_keptB (HO360.out) hkp (fun k_ hk_ hs_ => Or.elim hs_ (fun e_ => (hk_.2.2.2.2.1) e_) (fun e_ => (hk_.2.2.2.2.2.1) e_))) (fun k_ hk_ => ⟨hk_.1.1, hk_.1.2.1, hk_.1.2.2.1, hk_.1.2.2.2.1, hk_.1.2.2.2.2.1, hk_.1.2.2.2.2.2.1, hk_.1.2.2.2.2.2.2.1, hk_.1.2.2.2.2.2.2.2.1, hk_.1.2.2.2.2.2.2.2.2.1, hk_.1.2.2.2.2.2.2.2.2.2.1, hk_.1.2.2.2.2.2.2.2.2.2.2⟩)); replace HO364 := Aside0.mk (Kd.R_mono (ok' := fun k_ => some k_ ≠ (.slice Ao43 t324.length co43 : Value).ownBlock ∧ some k_ ≠ (.slice Ao45 t327.length co45 : Value).ownBlock ∧ some k_ ≠ (.slice Ao51 t332.length co51 : Value).ownBlock ∧ some k_ ≠ (.slice Ao56 t335.length co56 : Value).ownBlock ∧ some k_ ≠ (.slice Ao61 t339.length co61 : Value).ownBlock ∧ some k_ ≠ (.slice Ao67 t342.length co67 : Value).ownBlock ∧ some k_ ≠ (.slice Ao71 t346.length co71 : Value).ownBlock ∧ some k_ ≠ (.slice Ao78 t349.length co78 : Value).ownBlock ∧ some k_ ≠ (.slice Ao105 t355.length co105 : Value).ownBlock ∧ some k_ ≠ (.slice Ao106 t358.length co106 : Value).ownBlock ∧ some k_ ≠ (.slice Ao111 t365.length co111 : Value).ownBlock) (Kd.R_keptB (HO364.out) hkp (fun k_ hk_ hs_ => Or.elim hs_ (fun e_ => (hk_.2.2.2.2.1) e_) (fun e_ => (hk_.2.2.2.2.2.1) e_))) (fun k_ hk_ => ⟨hk_.1.1, hk_.1.2.1, hk_.1.2.2.1, hk_.1.2.2.2.1, hk_.1.2.2.2.2.1, hk_.1.2.2.2.2.2.1, hk_.1.2.2.2.2.2.2.1, hk_.1.2.2.2.2.2.2.2.1, hk_.1.2.2.2.2.2.2.2.2.1, hk_.1.2.2.2.2.2.2.2.2.2.1, hk_.1.2.2.2.2.2.2.2.2.2.2⟩)); replace HO367 := Aside0.mk (Kd.R_mono (ok' := fun k_ => some k_ ≠ (.slice Ao43 t324.length co43 : Value).ownBlock ∧ some k_ ≠ (.slice Ao45 t327.length co45 : Value).ownBlock ∧ some k_ ≠ (.slice Ao51 t332.length co51 : Value).ownBlock ∧ some k_ ≠ (.slice Ao56 t335.length co56 : Value).ownBlock ∧ some k_ ≠ (.slice Ao61 t339.length co61 : Value).ownBlock ∧ some k_ ≠ (.slice Ao67 t342.length co67 : Value).ownBlock ∧ some k_ ≠ (.slice Ao71 t346.length co71 : Value).ownBlock ∧ some k_ ≠ (.slice Ao78 t349.length co78 : Value).ownBlock ∧ some k_ ≠ (.slice Ao105 t355.length co105 : Value).ownBlock ∧ some k_ ≠ (.slice Ao106 t358.length co106 : Value).ownBlock ∧ some k_ ≠ (.slice Ao110 t362.length co110 : Value).ownBlock) (Kd.R_keptB (HO367.out) hkp (fun k_ hk_ hs_ => Or.elim hs_ (fun e_ => (hk_.2.2.2.2.1) e_) (fun e_ => (hk_.2.2.2.2.2.1) e_))) (fun k_ hk_ => ⟨hk_.1.1, hk_.1.2.1, hk_.1.2.2.1, hk_.1.2.2.2.1, hk_.1.2.2.2.2.1, hk_.1.2.2.2.2.2.1, hk_.1.2.2.2.2.2.2.1, hk_.1.2.2.2.2.2.2.2.1, hk_.1.2.2.2.2.2.2.2.2.1, hk_.1.2.2.2.2.2.2.2.2.2.1, hk_.1.2.2.2.2.2.2.2.2.2.2⟩)); replace HB := Aside0.mk (hb); (try clear hb); (try clear hkp); (try clear hy0); (try clear hy1)))
        (try simp only [Act.put, List.setIfInBounds_toArray, List.set_cons_zero, List.set_cons_succ])
        go_cut [82] (fun v82 wc => ∃ (kq : Nat) (x82_101 : Bool), v82 = .bool x82_101 ∧ Aside0 (laws_FnExactRotate.j1 kq t330 x82_101 l0_0 l0_1 l1_0 l1_1 t324 t327 t346 t349 = some r) ∧ Aside0 (kq ≤ kj24) ∧ Aside0 (Kd.R (Kd.int .i64) 3 wc w.heap.size (fun k_ => some k_ ≠ ((.slice Ao45 t327.length co45) : Value).ownBlock ∧ some k_ ≠ ((.slice Ao51 t332.length co51) : Value).ownBlock ∧ some k_ ≠ ((.slice Ao56 t335.length co56) : Value).ownBlock ∧ some k_ ≠ ((.slice Ao61 t339.length co61) : Value).ownBlock ∧ some k_ ≠ ((.slice Ao67 t342.length co67) : Value).ownBlock ∧ some k_ ≠ ((.slice Ao71 t346.length co71) : Value).ownBlock ∧ some k_ ≠ ((.slice Ao78 t349.length co78) : Value).ownBlock) (.slice Ao43 t324.length co43) t324) ∧ Aside0 (Kd.R (Kd.int .i64) 3 wc w.heap.size (fun k_ => some k_ ≠ ((.slice Ao43 t324.length co43) : Value).ownBlock ∧ some k_ ≠ ((.slice Ao51 t332.length co51) : Value).ownBlock ∧ some k_ ≠ ((.slice Ao56 t335.length co56) : Value).ownBlock ∧ some k_ ≠ ((.slice Ao61 t339.length co61) : Value).ownBlock ∧ some k_ ≠ ((.slice Ao67 t342.length co67) : Value).ownBlock ∧ some k_ ≠ ((.slice Ao71 t346.length co71) : Value).ownBlock ∧ some k_ ≠ ((.slice Ao78 t349.length co78) : Value).ownBlock) (.slice Ao45 t327.length co45) t327) ∧ Aside0 (Kd.R (Kd.int .i64) 3 wc w.heap.size (fun k_ => some k_ ≠ ((.slice Ao43 t324.length co43) : Value).ownBlock ∧ some k_ ≠ ((.slice Ao45 t327.length co45) : Value).ownBlock ∧ some k_ ≠ ((.slice Ao56 t335.length co56) : Value).ownBlock ∧ some k_ ≠ ((.slice Ao61 t339.length co61) : Value).ownBlock ∧ some k_ ≠ ((.slice Ao67 t342.length co67) : Value).ownBlock ∧ some k_ ≠ ((.slice Ao71 t346.length co71) : Value).ownBlock ∧ some k_ ≠ ((.slice Ao78 t349.length co78) : Value).ownBlock) (.slice Ao51 t332.length co51) t370) ∧ Aside0 (Kd.R (Kd.int .i64) 3 wc w.heap.size (fun k_ => some k_ ≠ ((.slice Ao43 t324.length co43) : Value).ownBlock ∧ some k_ ≠ ((.slice Ao45 t327.length co45) : Value).ownBlock ∧ some k_ ≠ ((.slice Ao51 t332.length co51) : Value).ownBlock ∧ some k_ ≠ ((.slice Ao61 t339.length co61) : Value).ownBlock ∧ some k_ ≠ ((.slice Ao67 t342.length co67) : Value).ownBlock ∧ some k_ ≠ ((.slice Ao71 t346.length co71) : Value).ownBlock ∧ some k_ ≠ ((.slice Ao78 t349.length co78) : Value).ownBlock) (.slice Ao56 t335.length co56) t371) ∧ Aside0 (Kd.R (Kd.int .i64) 3 wc w.heap.size (fun k_ => some k_ ≠ ((.slice Ao43 t324.length co43) : Value).ownBlock ∧ some k_ ≠ ((.slice Ao45 t327.length co45) : Value).ownBlock ∧ some k_ ≠ ((.slice Ao51 t332.length co51) : Value).ownBlock ∧ some k_ ≠ ((.slice Ao56 t335.length co56) : Value).ownBlock ∧ some k_ ≠ ((.slice Ao67 t342.length co67) : Value).ownBlock ∧ some k_ ≠ ((.slice Ao71 t346.length co71) : Value).ownBlock ∧ some k_ ≠ ((.slice Ao78 t349.length co78) : Value).ownBlock) (.slice Ao61 t339.length co61) t373) ∧ Aside0 (Kd.R (Kd.int .i64) 3 wc w.heap.size (fun k_ => some k_ ≠ ((.slice Ao43 t324.length co43) : Value).ownBlock ∧ some k_ ≠ ((.slice Ao45 t327.length co45) : Value).ownBlock ∧ some k_ ≠ ((.slice Ao51 t332.length co51) : Value).ownBlock ∧ some k_ ≠ ((.slice Ao56 t335.length co56) : Value).ownBlock ∧ some k_ ≠ ((.slice Ao61 t339.length co61) : Value).ownBlock ∧ some k_ ≠ ((.slice Ao71 t346.length co71) : Value).ownBlock ∧ some k_ ≠ ((.slice Ao78 t349.length co78) : Value).ownBlock) (.slice Ao67 t342.length co67) t374) ∧ Aside0 (Kd.R (Kd.int .i64) 3 wc w.heap.size (fun k_ => some k_ ≠ ((.slice Ao43 t324.length co43) : Value).ownBlock ∧ some k_ ≠ ((.slice Ao45 t327.length co45) : Value).ownBlock ∧ some k_ ≠ ((.slice Ao51 t332.length co51) : Value).ownBlock ∧ some k_ ≠ ((.slice Ao56 t335.length co56) : Value).ownBlock ∧ some k_ ≠ ((.slice Ao61 t339.length co61) : Value).ownBlock ∧ some k_ ≠ ((.slice Ao67 t342.length co67) : Value).ownBlock ∧ some k_ ≠ ((.slice Ao78 t349.length co78) : Value).ownBlock) (.slice Ao71 t346.length co71) t346) ∧ Aside0 (Kd.R (Kd.int .i64) 3 wc w.heap.size (fun k_ => some k_ ≠ ((.slice Ao43 t324.length co43) : Value).ownBlock ∧ some k_ ≠ ((.slice Ao45 t327.length co45) : Value).ownBlock ∧ some k_ ≠ ((.slice Ao51 t332.length co51) : Value).ownBlock ∧ some k_ ≠ ((.slice Ao56 t335.length co56) : Value).ownBlock ∧ some k_ ≠ ((.slice Ao61 t339.length co61) : Value).ownBlock ∧ some k_ ≠ ((.slice Ao67 t342.length co67) : Value).ownBlock ∧ some k_ ≠ ((.slice Ao71 t346.length co71) : Value).ownBlock) (.slice Ao78 t349.length co78) t349) ∧ Aside0 (wc.heap[gb308]? = some (.cells #[(.slice A0_0 l0_0.length c0_0), (.slice A0_1 l0_1.length c0_1)] 24 (0, 0))) ∧ Aside0 (wc.heap[gb309]? = some (.cells #[(.slice A1_0 l1_0.length c1_0), (.slice A1_1 l1_1.length c1_1)] 24 (0, 0))) ∧ Aside0 (wc.heap[gb331]? = some (.cells #[(.slice Ao43 t324.length co43), (.slice Ao45 t327.length co45)] 26 (0, 0))) ∧ Aside0 (wc.heap[gb338]? = some (.cells #[(.slice Ao51 t332.length co51), (.slice Ao56 t335.length co56)] 26 (0, 0))) ∧ Aside0 (wc.heap[gb345]? = some (.cells #[(.slice Ao61 t339.length co61), (.slice Ao67 t342.length co67)] 26 (0, 0))) ∧ Aside0 (wc.heap[gb353]? = some (.cells #[(.slice Ao71 t346.length co71), (.slice Ao78 t349.length co78)] 26 (0, 0))) ∧ Aside0 (Below w.heap.size w wc))
        case first =>
         have H := HC102.out
         clear HC102
         by_cases c126 : t372 < 0
         ·
          rw [if_pos c126] at H
          have c126b0 : decide (t372 < 0) = true := decide_eq_true c126
          clear c126
          (first | rw [c126b0] | (simp only [i64_w, i32_w]; rw [c126b0]) | skip)
          have hz_ : ∀ kz, laws_FnExactRotate.j1 kz t330 true l0_0 l0_1 l1_0 l1_1 t324 t327 t346 t349 = some r → r = false := by intro kz hz; cases kz with | zero => exact absurd hz (by simp [laws_FnExactRotate.j1]) | succ kz => simp only [laws_FnExactRotate.j1] at hz; first | (rw [if_pos rfl] at hz; exact (Option.some.inj hz).symm) | (simp at hz; exact hz.symm) | (simp at hz; exact hz)
          exact absurd (HT.out.symm.trans (hz_ _ H)) (by decide)
         ·
          rw [if_neg c126] at H
          have c126b0 : decide (t372 < 0) = false := decide_eq_false c126
          clear c126
          (first | rw [c126b0] | (simp only [i64_w, i32_w]; rw [c126b0]) | skip)
          replace H := Option.bind_eq_some_iff.mp H
          obtain ⟨t375, A1270, H⟩ := H
          replace H : (if t375 = true then (laws_FnExactRotate.j1 kj24 t330 (t352 != t330) l0_0 l0_1 l1_0 l1_1 t324 t327 t346 t349) else (laws_FnExactRotate.j1 kj24 t330 true l0_0 l0_1 l1_0 l1_1 t324 t327 t346 t349)) = some r := H
          have A127 := Aside0.mk A1270
          clear A1270
          by_cases c128 : t375 = true
          ·
           subst c128
           have H1 : (laws_FnExactRotate.j1 kj24 t330 (t352 != t330) l0_0 l0_1 l1_0 l1_1 t324 t327 t346 t349) = some r := by rw [if_pos rfl] at H; exact H
           clear H
           have H := H1
           clear H1
           have H' := Aside0.mk H
           clear H
           have hnb129 := NB353_308.out
           have hnc129 := NB308_353.out
           have hnb130 := NB353_309.out
           have hnc130 := NB309_353.out
           have hnb131 := NB353_331.out
           have hnc131 := NB331_353.out
           have hnb132 := NB353_338.out
           have hnc132 := NB338_353.out
           have hnb133 := NB353_345.out
           have hnc133 := NB345_353.out
           have hcz134_0 : w125.cell? ⟨gb353, 0, none⟩ = some (.slice Ao71 t346.length co71) := (blk_cell BK353.out 0).trans rfl
           have hcz134_1 : w125.cell? ⟨gb353, 1, none⟩ = some (.slice Ao78 t349.length co78) := (blk_cell BK353.out 1).trans rfl
           have hfz134_0 := blk_frozen BK353.out 0
           have hfz134_1 := blk_frozen BK353.out 1
           have hnb135 := NB331_308.out
           have hnc135 := NB308_331.out
           have hnb136 := NB331_309.out
           have hnc136 := NB309_331.out
           have hnb137 := NB331_338.out
           have hnc137 := NB338_331.out
           have hnb138 := NB331_345.out
           have hnc138 := NB345_331.out
           have hcz139_0 : w125.cell? ⟨gb331, 0, none⟩ = some (.slice Ao43 t324.length co43) := (blk_cell BK331.out 0).trans rfl
           have hcz139_1 : w125.cell? ⟨gb331, 1, none⟩ = some (.slice Ao45 t327.length co45) := (blk_cell BK331.out 1).trans rfl
           have hfz139_0 := blk_frozen BK331.out 0
           have hfz139_1 := blk_frozen BK331.out 1
           go_wp2_with (first | (go_at_call 19; (repeat rw [i64_w]); (with_reducible refine (laws_eqArray.calls kj24 _ _ t346 _ _ t349 _ _ t324 _ _ t327 true _ ?side1 ?side2 ?side3 ?side4 ?side5 ?side6 ?side7 ?side8 A127.out).mono ?_); (case side1 => exact cU (Kd.R_reads' HO_354000.out).2.2); (case side2 => exact (Kd.R_reads' HO_354000.out).2.1); (case side3 => exact cU (Kd.R_reads' HO_354001.out).2.2); (case side4 => exact (Kd.R_reads' HO_354001.out).2.1); (case side5 => exact cU (Kd.R_reads' HO_332000.out).2.2); (case side6 => exact (Kd.R_reads' HO_332000.out).2.1); (case side7 => exact cU (Kd.R_reads' HO_332001.out).2.2); (case side8 => exact (Kd.R_reads' HO_332001.out).2.1); rintro e w140 ⟨rfl, hb⟩; replace HO_332000 := Aside0.mk (Kd.R_below (RU HO_332000.out) hb); replace HO_332001 := Aside0.mk (Kd.R_below (RU HO_332001.out) hb); replace HO_339000 := Aside0.mk (Kd.R_below (RU HO_339000.out) hb); replace HO_339001 := Aside0.mk (Kd.R_below (RU HO_339001.out) hb); replace HO_346000 := Aside0.mk (Kd.R_below (RU HO_346000.out) hb); replace HO_346001 := Aside0.mk (Kd.R_below (RU HO_346001.out) hb); replace HO_354000 := Aside0.mk (Kd.R_below (RU HO_354000.out) hb); replace HO_354001 := Aside0.mk (Kd.R_below (RU HO_354001.out) hb); replace HO357 := Aside0.mk (Kd.R_below (RU HO357.out) hb); replace HO360 := Aside0.mk (Kd.R_below (RU HO360.out) hb); replace HO364 := Aside0.mk (Kd.R_below (RU HO364.out) hb); replace HO367 := Aside0.mk (Kd.R_below (RU HO367.out) hb); replace BK308 := Aside0.mk (blk_below (g := gb308) (o := .cells #[.slice A0_0 l0_0.length c0_0, .slice A0_1 l0_1.length c0_1] 24 (0, 0)) (kU BK308.out) hb); replace BK309 := Aside0.mk (blk_below (g := gb309) (o := .cells #[.slice A1_0 l1_0.length c1_0, .slice A1_1 l1_1.length c1_1] 24 (0, 0)) (kU BK309.out) hb); replace BK331 := Aside0.mk (blk_below (g := gb331) (o := .cells #[.slice Ao43 t324.length co43, .slice Ao45 t327.length co45] 26 (0, 0)) (kU BK331.out) hb); replace BK338 := Aside0.mk (blk_below (g := gb338) (o := .cells #[.slice Ao51 t332.length co51, .slice Ao56 t335.length co56] 26 (0, 0)) (kU BK338.out) hb); replace BK345 := Aside0.mk (blk_below (g := gb345) (o := .cells #[.slice Ao61 t339.length co61, .slice Ao67 t342.length co67] 26 (0, 0)) (kU BK345.out) hb); replace BK353 := Aside0.mk (blk_below (g := gb353) (o := .cells #[.slice Ao71 t346.length co71, .slice Ao78 t349.length co78] 26 (0, 0)) (kU BK353.out) hb); replace HB := Aside0.mk (below_step (by repeat (first | (with_reducible first | exact HB.out | apply below_alloc | apply pw_below_drewN | apply below_drew1 | refine below_set ?_ GE308.out | refine below_set ?_ GE309.out | refine below_set ?_ GE331.out | refine below_set ?_ GE338.out | refine below_set ?_ GE345.out | refine below_set ?_ GE353.out) | exact HB.out)) hb); (try clear hb); (try clear hb2); (try clear hk); (try clear hi)))
           go_meet
           case rel => exact ⟨_, ((t352 != t330)), (by first | rfl | (simp; done) | (simp [*]; done)), H', ⟨by have := HJ24.out; first | omega | exact Nat.le_refl _⟩, ⟨by (with_reducible repeat (first | apply Kd.R_alloc | apply Kd.R_drewN | apply Kd.R_drew)); exact Kd.R_mono HO_332000.out (fun _ hk => ⟨hk.1, ⟨hk.2.1, ⟨hk.2.2.1, ⟨hk.2.2.2.1, ⟨hk.2.2.2.2.1, ⟨hk.2.2.2.2.2.1, hk.2.2.2.2.2.2.1⟩⟩⟩⟩⟩⟩)⟩, ⟨by (with_reducible repeat (first | apply Kd.R_alloc | apply Kd.R_drewN | apply Kd.R_drew)); exact Kd.R_mono HO_332001.out (fun _ hk => ⟨hk.1, ⟨hk.2.1, ⟨hk.2.2.1, ⟨hk.2.2.2.1, ⟨hk.2.2.2.2.1, ⟨hk.2.2.2.2.2.1, hk.2.2.2.2.2.2.1⟩⟩⟩⟩⟩⟩)⟩, ⟨by (with_reducible repeat (first | apply Kd.R_alloc | apply Kd.R_drewN | apply Kd.R_drew)); exact Kd.R_mono HO_339000.out (fun _ hk => ⟨hk.1, ⟨hk.2.1, ⟨hk.2.2.1, ⟨hk.2.2.2.1, ⟨hk.2.2.2.2.1, ⟨hk.2.2.2.2.2.1, hk.2.2.2.2.2.2.1⟩⟩⟩⟩⟩⟩)⟩, ⟨by (with_reducible repeat (first | apply Kd.R_alloc | apply Kd.R_drewN | apply Kd.R_drew)); exact Kd.R_mono HO_339001.out (fun _ hk => ⟨hk.1, ⟨hk.2.1, ⟨hk.2.2.1, ⟨hk.2.2.2.1, ⟨hk.2.2.2.2.1, ⟨hk.2.2.2.2.2.1, hk.2.2.2.2.2.2.1⟩⟩⟩⟩⟩⟩)⟩, ⟨by (with_reducible repeat (first | apply Kd.R_alloc | apply Kd.R_drewN | apply Kd.R_drew)); exact Kd.R_mono HO_346000.out (fun _ hk => ⟨hk.1, ⟨hk.2.1, ⟨hk.2.2.1, ⟨hk.2.2.2.1, ⟨hk.2.2.2.2.1, ⟨hk.2.2.2.2.2.1, hk.2.2.2.2.2.2.1⟩⟩⟩⟩⟩⟩)⟩, ⟨by (with_reducible repeat (first | apply Kd.R_alloc | apply Kd.R_drewN | apply Kd.R_drew)); exact Kd.R_mono HO_346001.out (fun _ hk => ⟨hk.1, ⟨hk.2.1, ⟨hk.2.2.1, ⟨hk.2.2.2.1, ⟨hk.2.2.2.2.1, ⟨hk.2.2.2.2.2.1, hk.2.2.2.2.2.2.1⟩⟩⟩⟩⟩⟩)⟩, ⟨by (with_reducible repeat (first | apply Kd.R_alloc | apply Kd.R_drewN | apply Kd.R_drew)); exact Kd.R_mono HO_354000.out (fun _ hk => ⟨hk.1, ⟨hk.2.1, ⟨hk.2.2.1, ⟨hk.2.2.2.1, ⟨hk.2.2.2.2.1, ⟨hk.2.2.2.2.2.1, hk.2.2.2.2.2.2.1⟩⟩⟩⟩⟩⟩)⟩, ⟨by (with_reducible repeat (first | apply Kd.R_alloc | apply Kd.R_drewN | apply Kd.R_drew)); exact Kd.R_mono HO_354001.out (fun _ hk => ⟨hk.1, ⟨hk.2.1, ⟨hk.2.2.1, ⟨hk.2.2.2.1, ⟨hk.2.2.2.2.1, ⟨hk.2.2.2.2.2.1, hk.2.2.2.2.2.2.1⟩⟩⟩⟩⟩⟩)⟩, ⟨by (with_reducible repeat (first | refine blk_drewN ?_ _ | refine blk_drew ?_ | refine blk_alloc ?_ _)); exact BK308.out⟩, ⟨by (with_reducible repeat (first | refine blk_drewN ?_ _ | refine blk_drew ?_ | refine blk_alloc ?_ _)); exact BK309.out⟩, ⟨by (with_reducible repeat (first | refine blk_drewN ?_ _ | refine blk_drew ?_ | refine blk_alloc ?_ _)); exact BK331.out⟩, ⟨by (with_reducible repeat (first | refine blk_drewN ?_ _ | refine blk_drew ?_ | refine blk_alloc ?_ _)); exact BK338.out⟩, ⟨by (with_reducible repeat (first | refine blk_drewN ?_ _ | refine blk_drew ?_ | refine blk_alloc ?_ _)); exact BK345.out⟩, ⟨by (with_reducible repeat (first | refine blk_drewN ?_ _ | refine blk_drew ?_ | refine blk_alloc ?_ _)); exact BK353.out⟩, ⟨by repeat (first | (with_reducible first | exact HB.out | apply below_alloc | apply pw_below_drewN | apply below_drew1 | refine below_set ?_ GE308.out | refine below_set ?_ GE309.out | refine below_set ?_ GE331.out | refine below_set ?_ GE338.out | refine below_set ?_ GE345.out | refine below_set ?_ GE353.out) | exact HB.out)⟩⟩
          ·
           replace c128 := Bool.eq_false_iff.mpr c128
           subst c128
           have H1 : (laws_FnExactRotate.j1 kj24 t330 true l0_0 l0_1 l1_0 l1_1 t324 t327 t346 t349) = some r := by rw [if_neg (show ¬ (false = true) by decide)] at H; exact H
           clear H
           have H := H1
           clear H1
           have hz_ : ∀ kz, laws_FnExactRotate.j1 kz t330 true l0_0 l0_1 l1_0 l1_1 t324 t327 t346 t349 = some r → r = false := by intro kz hz; cases kz with | zero => exact absurd hz (by simp [laws_FnExactRotate.j1]) | succ kz => simp only [laws_FnExactRotate.j1] at hz; first | (rw [if_pos rfl] at hz; exact (Option.some.inj hz).symm) | (simp at hz; exact hz.symm) | (simp at hz; exact hz)
           exact absurd (HT.out.symm.trans (hz_ _ H)) (by decide)
        case rest =>
         clear HC102
         try clear c1
         try clear c2
         try clear p2
         try clear c9
         try clear c11
         try clear c12
         try clear c13
         try clear c17
         try clear c19
         try clear c20
         try clear c96
         try clear c99
         try clear c113
         try clear c114
         try clear c115
         try clear c116
         try clear c117
         try clear c120
         try clear c121
         try clear c122
         try clear c123
         try clear c126
         try clear c126b0
         try clear c128
         try clear c129
         try clear c130
         try clear c131
         try clear c132
         try clear c133
         try clear c135
         try clear c136
         try clear c137
         try clear c138
         try clear hcz118_0
         try clear hcz118_1
         try clear hcz124_0
         try clear hcz124_1
         try clear hcz134_0
         try clear hcz134_1
         try clear hcz139_0
         try clear hcz139_1
         try clear hfz118_0
         try clear hfz118_1
         try clear hfz124_0
         try clear hfz124_1
         try clear hfz134_0
         try clear hfz134_1
         try clear hfz139_0
         try clear hfz139_1
         obtain ⟨kq, x82_101, rfl, HA, HJ101, HO_332000, HO_332001, HO_339000, HO_339001, HO_346000, HO_346001, HO_354000, HO_354001, BK308, BK309, BK331, BK338, BK345, BK353, HB⟩ := hcut
         have hl339000_101 := (Kd.R_reads' HO_339000.out).1
         rw [hl339000_101] at HO_339000
         (try simp only [hl339000_101])
         (try simp only [hl339000_101] at BK308)
         (try simp only [hl339000_101] at BK309)
         (try simp only [hl339000_101] at BK331)
         (try simp only [hl339000_101] at BK338)
         (try simp only [hl339000_101] at BK345)
         (try simp only [hl339000_101] at BK353)
         (try simp only [hl339000_101] at HO_332000)
         (try simp only [hl339000_101] at HO_332001)
         (try simp only [hl339000_101] at HO_339001)
         (try simp only [hl339000_101] at HO_346000)
         (try simp only [hl339000_101] at HO_346001)
         (try simp only [hl339000_101] at HO_354000)
         (try simp only [hl339000_101] at HO_354001)
         have hl339001_101 := (Kd.R_reads' HO_339001.out).1
         rw [hl339001_101] at HO_339001
         (try simp only [hl339001_101])
         (try simp only [hl339001_101] at BK308)
         (try simp only [hl339001_101] at BK309)
         (try simp only [hl339001_101] at BK331)
         (try simp only [hl339001_101] at BK338)
         (try simp only [hl339001_101] at BK345)
         (try simp only [hl339001_101] at BK353)
         (try simp only [hl339001_101] at HO_332000)
         (try simp only [hl339001_101] at HO_332001)
         (try simp only [hl339001_101] at HO_339000)
         (try simp only [hl339001_101] at HO_346000)
         (try simp only [hl339001_101] at HO_346001)
         (try simp only [hl339001_101] at HO_354000)
         (try simp only [hl339001_101] at HO_354001)
         have hl346000_101 := (Kd.R_reads' HO_346000.out).1
         rw [hl346000_101] at HO_346000
         (try simp only [hl346000_101])
         (try simp only [hl346000_101] at BK308)
         (try simp only [hl346000_101] at BK309)
         (try simp only [hl346000_101] at BK331)
         (try simp only [hl346000_101] at BK338)
         (try simp only [hl346000_101] at BK345)
         (try simp only [hl346000_101] at BK353)
         (try simp only [hl346000_101] at HO_332000)
         (try simp only [hl346000_101] at HO_332001)
         (try simp only [hl346000_101] at HO_339000)
         (try simp only [hl346000_101] at HO_339001)
         (try simp only [hl346000_101] at HO_346001)
         (try simp only [hl346000_101] at HO_354000)
         (try simp only [hl346000_101] at HO_354001)
         have hl346001_101 := (Kd.R_reads' HO_346001.out).1
         rw [hl346001_101] at HO_346001
         (try simp only [hl346001_101])
         (try simp only [hl346001_101] at BK308)
         (try simp only [hl346001_101] at BK309)
         (try simp only [hl346001_101] at BK331)
         (try simp only [hl346001_101] at BK338)
         (try simp only [hl346001_101] at BK345)
         (try simp only [hl346001_101] at BK353)
         (try simp only [hl346001_101] at HO_332000)
         (try simp only [hl346001_101] at HO_332001)
         (try simp only [hl346001_101] at HO_339000)
         (try simp only [hl346001_101] at HO_339001)
         (try simp only [hl346001_101] at HO_346000)
         (try simp only [hl346001_101] at HO_354000)
         (try simp only [hl346001_101] at HO_354001)
         cases kq with
         | zero => exact absurd HA.out (by simp [laws_FnExactRotate.j1])
         | succ kj101 =>
          have H := HA.out
          clear HA
          simp only [laws_FnExactRotate.j1] at H
          by_cases c141 : x82_101 = true
          ·
           subst c141
           have H1 : (some false) = some r := by rw [if_pos rfl] at H; exact H
           clear H
           have H := H1
           clear H1
           obtain rfl := Option.some.inj H
           exact absurd HT.out (by decide)
          ·
           replace c141 := Bool.eq_false_iff.mpr c141
           subst c141
           have H1 : ((laws_markArray.f kj101 t346 t349 1).bind fun bt376 => ((laws_heldArray.f kj101 bt376.2.1 bt376.2.2 1).bind fun t379 => (if t379 < 0 then (some false) else (if t379 = bt376.1 then ((laws_toArray.f kj101 l0_0 l0_1).bind fun bt380 => ((laws_toArray.f kj101 l1_0 l1_1).bind fun bt386 => ((impl_Rotate.f kj101 bt380.1 bt380.2 bt386.1 bt386.2).bind fun bt392 => ((laws_eqArray.f kj101 bt392.1 bt392.2.1 t324 t327).bind fun t400 => (if t400 = true then (laws_FnExactRotate.j2 kj101 bt376.1 (bt392.2.2 != t330) bt376.2.1 bt376.2.2) else (laws_FnExactRotate.j2 kj101 bt376.1 true bt376.2.1 bt376.2.2)))))) else (some false))))) = some r := by rw [if_neg (show ¬ (false = true) by decide)] at H; exact H
           clear H
           have H := H1
           clear H1
           replace H := Option.bind_eq_some_iff.mp H
           obtain ⟨⟨t376, t377, t378⟩, A1420, H⟩ := H
           replace H : ((laws_heldArray.f kj101 t377 t378 1).bind fun t379 => (if t379 < 0 then (some false) else (if t379 = t376 then ((laws_toArray.f kj101 l0_0 l0_1).bind fun bt380 => ((laws_toArray.f kj101 l1_0 l1_1).bind fun bt386 => ((impl_Rotate.f kj101 bt380.1 bt380.2 bt386.1 bt386.2).bind fun bt392 => ((laws_eqArray.f kj101 bt392.1 bt392.2.1 t324 t327).bind fun t400 => (if t400 = true then (laws_FnExactRotate.j2 kj101 t376 (bt392.2.2 != t330) t377 t378) else (laws_FnExactRotate.j2 kj101 t376 true t377 t378)))))) else (some false)))) = some r := H
           have A142 := Aside0.mk A1420
           clear A1420
           replace H := Option.bind_eq_some_iff.mp H
           obtain ⟨t379, A1430, H⟩ := H
           replace H : (if t379 < 0 then (some false) else (if t379 = t376 then ((laws_toArray.f kj101 l0_0 l0_1).bind fun bt380 => ((laws_toArray.f kj101 l1_0 l1_1).bind fun bt386 => ((impl_Rotate.f kj101 bt380.1 bt380.2 bt386.1 bt386.2).bind fun bt392 => ((laws_eqArray.f kj101 bt392.1 bt392.2.1 t324 t327).bind fun t400 => (if t400 = true then (laws_FnExactRotate.j2 kj101 t376 (bt392.2.2 != t330) t377 t378) else (laws_FnExactRotate.j2 kj101 t376 true t377 t378)))))) else (some false))) = some r := H
           have A143 := Aside0.mk A1430
           clear A1430
           by_cases c144 : t379 < 0
           ·
            rw [if_pos c144] at H
            have c144b0 : decide (t379 < 0) = true := decide_eq_true c144
            clear c144
            obtain rfl := Option.some.inj H
            exact absurd HT.out (by decide)
           ·
            rw [if_neg c144] at H
            have c144b0 : decide (t379 < 0) = false := decide_eq_false c144
            clear c144
            by_cases c145 : t379 = t376
            ·
             rw [if_pos c145] at H
             have c145b0 : (t379 == t376) = true := beq_iff_eq.mpr c145
             have c145b1 : (t379 != t376) = false := bne_eq_false_iff_eq.mpr c145
             clear c145
             replace H := Option.bind_eq_some_iff.mp H
             obtain ⟨⟨t380, t383⟩, A1460, H⟩ := H
             replace H : ((laws_toArray.f kj101 l1_0 l1_1).bind fun bt386 => ((impl_Rotate.f kj101 t380 t383 bt386.1 bt386.2).bind fun bt392 => ((laws_eqArray.f kj101 bt392.1 bt392.2.1 t324 t327).bind fun t400 => (if t400 = true then (laws_FnExactRotate.j2 kj101 t376 (bt392.2.2 != t330) t377 t378) else (laws_FnExactRotate.j2 kj101 t376 true t377 t378))))) = some r := H
             have A146 := Aside0.mk A1460
             clear A1460
             replace H := Option.bind_eq_some_iff.mp H
             obtain ⟨⟨t386, t389⟩, A1470, H⟩ := H
             replace H : ((impl_Rotate.f kj101 t380 t383 t386 t389).bind fun bt392 => ((laws_eqArray.f kj101 bt392.1 bt392.2.1 t324 t327).bind fun t400 => (if t400 = true then (laws_FnExactRotate.j2 kj101 t376 (bt392.2.2 != t330) t377 t378) else (laws_FnExactRotate.j2 kj101 t376 true t377 t378)))) = some r := H
             have A147 := Aside0.mk A1470
             clear A1470
             replace H := Option.bind_eq_some_iff.mp H
             obtain ⟨⟨t392, t395, t398⟩, A1480, H⟩ := H
             replace H : ((laws_eqArray.f kj101 t392 t395 t324 t327).bind fun t400 => (if t400 = true then (laws_FnExactRotate.j2 kj101 t376 (t398 != t330) t377 t378) else (laws_FnExactRotate.j2 kj101 t376 true t377 t378))) = some r := H
             have A148 := Aside0.mk A1480
             clear A1480
             have HC149 := Aside0.mk H
             clear H
             have hnb150 := NB353_308.out
             have hnc150 := NB308_353.out
             have hnb151 := NB353_309.out
             have hnc151 := NB309_353.out
             have hnb152 := NB353_331.out
             have hnc152 := NB331_353.out
             have hnb153 := NB353_338.out
             have hnc153 := NB338_353.out
             have hnb154 := NB353_345.out
             have hnc154 := NB345_353.out
             have hcz155_0 : wc.cell? ⟨gb353, 0, none⟩ = some (.slice Ao71 t346.length co71) := (blk_cell BK353.out 0).trans rfl
             have hcz155_1 : wc.cell? ⟨gb353, 1, none⟩ = some (.slice Ao78 t349.length co78) := (blk_cell BK353.out 1).trans rfl
             have hfz155_0 := blk_frozen BK353.out 0
             have hfz155_1 := blk_frozen BK353.out 1
             try go_wp2_with (first | ((with_reducible refine gate_callee (f := 20) rfl ?_); refine goesL_ (some 85) rfl rfl Try.func20 (by kernel_rfl) rfl #[.agg #[.slice Ao71 t346.length co71, .slice Ao78 t349.length co78], .int .i64 1] rfl (by (try simp only [List.map_toArray, List.map_cons, List.map_nil]); first | done | rfl | (simp only [List.length_drop, List.length_take]; rfl)) ?_; (with_reducible refine (laws_markArray.calls kj101 (fun k_ => some k_ = (.slice Ao71 t346.length co71 : Value).ownBlock) (.slice Ao71 t346.length co71) t346 (fun k_ => some k_ = (.slice Ao78 t349.length co78 : Value).ownBlock) (.slice Ao78 t349.length co78) t349 1 t376 t377 t378 w _ ?side1 ?side2 ?side3 ?side4 ?side5 A142.out).mono ?_); (case side1 => repeat (first | (with_reducible first | exact HB.out | apply below_alloc | apply pw_below_drewN | apply below_drew1 | refine below_set ?_ GE308.out | refine below_set ?_ GE309.out | refine below_set ?_ GE331.out | refine below_set ?_ GE338.out | refine below_set ?_ GE345.out | refine below_set ?_ GE353.out) | exact HB.out)); (case side2 => exact Kd.R_tight rfl HO_354000.out); (case side3 => exact fun k_ e_ => (HO_354000.out.1 k_ e_.symm).2.2.2.2.2.2); (case side4 => exact Kd.R_tight rfl HO_354001.out); (case side5 => exact fun k_ e_ => (HO_354001.out.1 k_ e_.symm).2.2.2.2.2.2); rintro e w156 ⟨rfl, hy0, hy1, hb, hkp⟩; refine ⟨_, rfl, ?_⟩; replace HO_332000 := Aside0.mk (Kd.R_mono (ok' := fun k_ => some k_ ≠ (.slice Ao45 t327.length co45 : Value).ownBlock ∧ some k_ ≠ (.slice Ao51 t370.length co51 : Value).ownBlock ∧ some k_ ≠ (.slice Ao56 t371.length co56 : Value).ownBlock ∧ some k_ ≠ (.slice Ao61 t373.length co61 : Value).ownBlock ∧ some k_ ≠ (.slice Ao67 t374.length co67 : Value).ownBlock ∧ some k_ ≠ (.slice Ao71 t346.length co71 : Value).ownBlock ∧ some k_ ≠ (.slice Ao78 t349.length co78 : Value).ownBlock) (Kd.R_keptB (HO_332000.out) hkp (fun k_ hk_ hs_ => Or.elim hs_ (fun e_ => (hk_.2.2.2.2.2.1) e_) (fun e_ => (hk_.2.2.2.2.2.2) e_))) (fun k_ hk_ => ⟨hk_.1.1, hk_.1.2.1, hk_.1.2.2.1, hk_.1.2.2.2.1, hk_.1.2.2.2.2.1, hk_.1.2.2.2.2.2.1, hk_.1.2.2.2.2.2.2⟩)); replace HO_332001 := Aside0.mk (Kd.R_mono (ok' := fun k_ => some k_ ≠ (.slice Ao43 t324.length co43 : Value).ownBlock ∧ some k_ ≠ (.slice Ao51 t370.length co51 : Value).ownBlock ∧ some k_ ≠ (.slice Ao56 t371.length co56 : Value).ownBlock ∧ some k_ ≠ (.slice Ao61 t373.length co61 : Value).ownBlock ∧ some k_ ≠ (.slice Ao67 t374.length co67 : Value).ownBlock ∧ some k_ ≠ (.slice Ao71 t346.length co71 : Value).ownBlock ∧ some k_ ≠ (.slice Ao78 t349.length co78 : Value).ownBlock) (Kd.R_keptB (HO_332001.out) hkp (fun k_ hk_ hs_ => Or.elim hs_ (fun e_ => (hk_.2.2.2.2.2.1) e_) (fun e_ => (hk_.2.2.2.2.2.2) e_))) (fun k_ hk_ => ⟨hk_.1.1, hk_.1.2.1, hk_.1.2.2.1, hk_.1.2.2.2.1, hk_.1.2.2.2.2.1, hk_.1.2.2.2.2.2.1, hk_.1.2.2.2.2.2.2⟩)); replace HO_339000 := Aside0.mk (Kd.R_mono (ok' := fun k_ => some k_ ≠ (.slice Ao43 t324.length co43 : Value).ownBlock ∧ some k_ ≠ (.slice Ao45 t327.length co45 : Value).ownBlock ∧ some k_ ≠ (.slice Ao56 t371.length co56 : Value).ownBlock ∧ some k_ ≠ (.slice Ao61 t373.length co61 : Value).ownBlock ∧ some k_ ≠ (.slice Ao67 t374.length co67 : Value).ownBlock ∧ some k_ ≠ (.slice Ao71 t346.length co71 : Value).ownBlock ∧ some k_ ≠ (.slice Ao78 t349.length co78 : Value).ownBlock) (Kd.R_keptB (HO_339000.out) hkp (fun k_ hk_ hs_ => Or.elim hs_ (fun e_ => (hk_.2.2.2.2.2.1) e_) (fun e_ => (hk_.2.2.2.2.2.2) e_))) (fun k_ hk_ => ⟨hk_.1.1, hk_.1.2.1, hk_.1.2.2.1, hk_.1.2.2.2.1, hk_.1.2.2.2.2.1, hk_.1.2.2.2.2.2.1, hk_.1.2.2.2.2.2.2⟩)); replace HO_339001 := Aside0.mk (Kd.R_mono (ok' := fun k_ => some k_ ≠ (.slice Ao43 t324.length co43 : Value).ownBlock ∧ some k_ ≠ (.slice Ao45 t327.length co45 : Value).ownBlock ∧ some k_ ≠ (.slice Ao51 t370.length co51 : Value).ownBlock ∧ some k_ ≠ (.slice Ao61 t373.length co61 : Value).ownBlock ∧ some k_ ≠ (.slice Ao67 t374.length co67 : Value).ownBlock ∧ some k_ ≠ (.slice Ao71 t346.length co71 : Value).ownBlock ∧ some k_ ≠ (.slice Ao78 t349.length co78 : Value).ownBlock) (Kd.R_keptB (HO_339001.out) hkp (fun k_ hk_ hs_ => Or.elim hs_ (fun e_ => (hk_.2.2.2.2.2.1) e_) (fun e_ => (hk_.2.2.2.2.2.2) e_))) (fun k_ hk_ => ⟨hk_.1.1, hk_.1.2.1, hk_.1.2.2.1, hk_.1.2.2.2.1, hk_.1.2.2.2.2.1, hk_.1.2.2.2.2.2.1, hk_.1.2.2.2.2.2.2⟩)); replace HO_346000 := Aside0.mk (Kd.R_mono (ok' := fun k_ => some k_ ≠ (.slice Ao43 t324.length co43 : Value).ownBlock ∧ some k_ ≠ (.slice Ao45 t327.length co45 : Value).ownBlock ∧ some k_ ≠ (.slice Ao51 t370.length co51 : Value).ownBlock ∧ some k_ ≠ (.slice Ao56 t371.length co56 : Value).ownBlock ∧ some k_ ≠ (.slice Ao67 t374.length co67 : Value).ownBlock ∧ some k_ ≠ (.slice Ao71 t346.length co71 : Value).ownBlock ∧ some k_ ≠ (.slice Ao78 t349.length co78 : Value).ownBlock) (Kd.R_keptB (HO_346000.out) hkp (fun k_ hk_ hs_ => Or.elim hs_ (fun e_ => (hk_.2.2.2.2.2.1) e_) (fun e_ => (hk_.2.2.2.2.2.2) e_))) (fun k_ hk_ => ⟨hk_.1.1, hk_.1.2.1, hk_.1.2.2.1, hk_.1.2.2.2.1, hk_.1.2.2.2.2.1, hk_.1.2.2.2.2.2.1, hk_.1.2.2.2.2.2.2⟩)); replace HO_346001 := Aside0.mk (Kd.R_mono (ok' := fun k_ => some k_ ≠ (.slice Ao43 t324.length co43 : Value).ownBlock ∧ some k_ ≠ (.slice Ao45 t327.length co45 : Value).ownBlock ∧ some k_ ≠ (.slice Ao51 t370.length co51 : Value).ownBlock ∧ some k_ ≠ (.slice Ao56 t371.length co56 : Value).ownBlock ∧ some k_ ≠ (.slice Ao61 t373.length co61 : Value).ownBlock ∧ some k_ ≠ (.slice Ao71 t346.length co71 : Value).ownBlock ∧ some k_ ≠ (.slice Ao78 t349.length co78 : Value).ownBlock) (Kd.R_keptB (HO_346001.out) hkp (fun k_ hk_ hs_ => Or.elim hs_ (fun e_ => (hk_.2.2.2.2.2.1) e_) (fun e_ => (hk_.2.2.2.2.2.2) e_))) (fun k_ hk_ => ⟨hk_.1.1, hk_.1.2.1, hk_.1.2.2.1, hk_.1.2.2.2.1, hk_.1.2.2.2.2.1, hk_.1.2.2.2.2.2.1, hk_.1.2.2.2.2.2.2⟩)); replace BK308 := Aside0.mk (blk_kept (kU BK308.out) hkp (fun hs_ => Or.elim hs_ (fun e_ => (fun e_ => (Kd.R_ne HO_354000.out BK308.out (by decide)) e_) e_) (fun e_ => (fun e_ => (Kd.R_ne HO_354001.out BK308.out (by decide)) e_) e_))); replace BK309 := Aside0.mk (blk_kept (kU BK309.out) hkp (fun hs_ => Or.elim hs_ (fun e_ => (fun e_ => (Kd.R_ne HO_354000.out BK309.out (by decide)) e_) e_) (fun e_ => (fun e_ => (Kd.R_ne HO_354001.out BK309.out (by decide)) e_) e_))); replace BK331 := Aside0.mk (blk_kept (kU BK331.out) hkp (fun hs_ => Or.elim hs_ (fun e_ => (fun e_ => (Kd.R_ne HO_354000.out BK331.out (by decide)) e_) e_) (fun e_ => (fun e_ => (Kd.R_ne HO_354001.out BK331.out (by decide)) e_) e_))); replace BK338 := Aside0.mk (blk_kept (kU BK338.out) hkp (fun hs_ => Or.elim hs_ (fun e_ => (fun e_ => (Kd.R_ne HO_354000.out BK338.out (by decide)) e_) e_) (fun e_ => (fun e_ => (Kd.R_ne HO_354001.out BK338.out (by decide)) e_) e_))); replace BK345 := Aside0.mk (blk_kept (kU BK345.out) hkp (fun hs_ => Or.elim hs_ (fun e_ => (fun e_ => (Kd.R_ne HO_354000.out BK345.out (by decide)) e_) e_) (fun e_ => (fun e_ => (Kd.R_ne HO_354001.out BK345.out (by decide)) e_) e_))); replace BK353 := Aside0.mk (blk_kept (kU BK353.out) hkp (fun hs_ => Or.elim hs_ (fun e_ => (fun e_ => (Kd.R_ne HO_354000.out BK353.out (by decide)) e_) e_) (fun e_ => (fun e_ => (Kd.R_ne HO_354001.out BK353.out (by decide)) e_) e_))); replace HO_354000 := Aside0.mk (Kd.R_reok rfl hy0 (fun k_ e_ => HO_354000.out.1 k_ e_)); replace HO_354001 := Aside0.mk (Kd.R_reok rfl hy1 (fun k_ e_ => HO_354001.out.1 k_ e_)); replace HB := Aside0.mk (hb); (try clear hb); (try clear hkp); (try clear hy0); (try clear hy1); have hcz157_0 : w156.cell? ⟨gb353, 0, none⟩ = some (.slice Ao71 t346.length co71) := (blk_cell BK353.out 0).trans rfl; have hcz157_1 : w156.cell? ⟨gb353, 1, none⟩ = some (.slice Ao78 t349.length co78) := (blk_cell BK353.out 1).trans rfl; have hfz157_0 := blk_frozen BK353.out 0; have hfz157_1 := blk_frozen BK353.out 1) | ((with_reducible refine gate_callee (f := 21) rfl ?_); refine goesL_ (some 88) rfl rfl Try.func21 (by kernel_rfl) rfl #[.agg #[.slice Ao71 t377.length co71, .slice Ao78 t378.length co78], .int .i64 1] rfl (by (try simp only [List.map_toArray, List.map_cons, List.map_nil]); first | done | (rw [show t377.length = t346.length from (Kd.R_reads' HO_354000.out).1.symm, show t378.length = t349.length from (Kd.R_reads' HO_354001.out).1.symm] <;> rfl) | rfl | (simp only [List.length_drop, List.length_take]; rfl)) ?_; (with_reducible refine (laws_heldArray.calls kj101 _ _ t377 _ _ t378 1 t379 _ ?side1 ?side2 ?side3 ?side4 A143.out).mono ?_); (case side1 => exact cU (Kd.R_reads' HO_354000.out).2.2); (case side2 => rw [show t377.length = t346.length from (Kd.R_reads' HO_354000.out).1.symm]; exact (Kd.R_reads' HO_354000.out).2.1); (case side3 => exact cU (Kd.R_reads' HO_354001.out).2.2); (case side4 => rw [show t378.length = t349.length from (Kd.R_reads' HO_354001.out).1.symm]; exact (Kd.R_reads' HO_354001.out).2.1); rintro e w158 ⟨rfl, hb⟩; refine ⟨_, rfl, ?_⟩; replace HO_332000 := Aside0.mk (Kd.R_below (RU HO_332000.out) hb); replace HO_332001 := Aside0.mk (Kd.R_below (RU HO_332001.out) hb); replace HO_339000 := Aside0.mk (Kd.R_below (RU HO_339000.out) hb); replace HO_339001 := Aside0.mk (Kd.R_below (RU HO_339001.out) hb); replace HO_346000 := Aside0.mk (Kd.R_below (RU HO_346000.out) hb); replace HO_346001 := Aside0.mk (Kd.R_below (RU HO_346001.out) hb); replace HO_354000 := Aside0.mk (Kd.R_below (RU HO_354000.out) hb); replace HO_354001 := Aside0.mk (Kd.R_below (RU HO_354001.out) hb); replace BK308 := Aside0.mk (blk_below (g := gb308) (o := .cells #[.slice A0_0 l0_0.length c0_0, .slice A0_1 l0_1.length c0_1] 24 (0, 0)) (kU BK308.out) hb); replace BK309 := Aside0.mk (blk_below (g := gb309) (o := .cells #[.slice A1_0 l1_0.length c1_0, .slice A1_1 l1_1.length c1_1] 24 (0, 0)) (kU BK309.out) hb); replace BK331 := Aside0.mk (blk_below (g := gb331) (o := .cells #[.slice Ao43 t324.length co43, .slice Ao45 t327.length co45] 26 (0, 0)) (kU BK331.out) hb); replace BK338 := Aside0.mk (blk_below (g := gb338) (o := .cells #[.slice Ao51 t370.length co51, .slice Ao56 t371.length co56] 26 (0, 0)) (kU BK338.out) hb); replace BK345 := Aside0.mk (blk_below (g := gb345) (o := .cells #[.slice Ao61 t373.length co61, .slice Ao67 t374.length co67] 26 (0, 0)) (kU BK345.out) hb); replace BK353 := Aside0.mk (blk_below (g := gb353) (o := .cells #[.slice Ao71 t346.length co71, .slice Ao78 t349.length co78] 26 (0, 0)) (kU BK353.out) hb); replace HB := Aside0.mk (below_step (by repeat (first | (with_reducible first | exact HB.out | apply below_alloc | apply pw_below_drewN | apply below_drew1 | refine below_set ?_ GE308.out | refine below_set ?_ GE309.out | refine below_set ?_ GE331.out | refine below_set ?_ GE338.out | refine below_set ?_ GE345.out | refine below_set ?_ GE353.out) | exact HB.out)) hb); (try clear hb); (try clear hb2); (try clear hk); (try clear hi)))
             replace HO_332000 := Aside0.mk (Kd.R_drew HO_332000.out)
             replace HO_332001 := Aside0.mk (Kd.R_drew HO_332001.out)
             replace HO_339000 := Aside0.mk (Kd.R_drew HO_339000.out)
             replace HO_339001 := Aside0.mk (Kd.R_drew HO_339001.out)
             replace HO_346000 := Aside0.mk (Kd.R_drew HO_346000.out)
             replace HO_346001 := Aside0.mk (Kd.R_drew HO_346001.out)
             replace HO_354000 := Aside0.mk (Kd.R_drew HO_354000.out)
             replace HO_354001 := Aside0.mk (Kd.R_drew HO_354001.out)
             replace BK308 := Aside0.mk (blk_drew BK308.out)
             replace BK309 := Aside0.mk (blk_drew BK309.out)
             replace BK331 := Aside0.mk (blk_drew BK331.out)
             replace BK338 := Aside0.mk (blk_drew BK338.out)
             replace BK345 := Aside0.mk (blk_drew BK345.out)
             replace BK353 := Aside0.mk (blk_drew BK353.out)
             replace HB := Aside0.mk (below_drew1 HB.out)
             refine start_ (n := 11) (S := fun w' => w'.cell? ⟨gb308, 0, none⟩ = some (.slice A0_0 l0_0.length c0_0) ∧ w'.cell? ⟨gb308, 1, none⟩ = some (.slice A0_1 l0_1.length c0_1) ∧ w'.cell? ⟨gb309, 0, none⟩ = some (.slice A1_0 l1_0.length c1_0) ∧ w'.cell? ⟨gb309, 1, none⟩ = some (.slice A1_1 l1_1.length c1_1)) (ds := []) #[false, false, false, false, false, false, false, false, false, false, false] (by kernel_rfl) rfl rfl ⟨(blk_cell BK308.out 0).trans rfl, (blk_cell BK308.out 1).trans rfl, (blk_cell BK309.out 0).trans rfl, (blk_cell BK309.out 1).trans rfl⟩ (fun hHeld => ?_); refine with_tabW laws_FnExactRotate.tab31 laws_FnExactRotate.bits31 (fun HT_ HW_ => ?_)
             generalize w158.drew = w159 at HO_332000 HO_332001 HO_339000 HO_339001 HO_346000 HO_346001 HO_354000 HO_354001 BK308 BK309 BK331 BK338 BK345 BK353 HB hHeld ⊢
             refine take_ (i := 0) (N := some 95) (v := ?_) (a' := ?_) #[true, false, false, false, false, false, false, false, false, false, false] rfl rfl (take_ofW HT_.out HW_.out (by kernel_rfl)) (fun _ _ _ h => h) (Or.inl ⟨by rfl, ?_⟩) hHeld ?_ ?_
             rotate_left
             ·
              rintro w' ⟨s0, s1, s2, s3⟩
              go_simp
              with_reducible rfl
             rotate_left
             ·
              simp only [Act.put, List.setIfInBounds_toArray, List.set_cons_zero, List.set_cons_succ, i64_w, i32_w]
              rfl
             refine take_ (i := 2) (N := some 97) (v := ?_) (a' := ?_) #[true, false, true, false, false, false, false, false, false, false, false] rfl rfl (take_ofW HT_.out HW_.out (by kernel_rfl)) (fun _ _ _ h => h) (Or.inl ⟨by rfl, ?_⟩) hHeld ?_ ?_
             rotate_left
             ·
              rintro w' ⟨s0, s1, s2, s3⟩
              go_simp
              with_reducible rfl
             rotate_left
             ·
              simp only [Act.put, List.setIfInBounds_toArray, List.set_cons_zero, List.set_cons_succ, i64_w, i32_w]
              rfl
             rename_i h1_52 h1_75 h1_76 h1_78 h1_92 h1_109 h1_163 h1_166 h1_169 h1_172 h1_175 h1_178 h1_181 h1_208 h1_209 h1_210 h1_211 h1_212 h1_213 h1_214 h1_215 h1_216 h1_217 h1_218 h1_219 h1_220 h1_221 h1_222 h1_223 h1_224 h1_225 h1_226 h1_227 h1_228 h1_229 h1_230 h1_231 h1_232 h1_233 h1_234 h1_235 h1_236 h1_237 h1_238 h1_239 h1_240 h1_241 h1_242 h1_243 h1_244 h1_245 h1_246 h1_247 h1_248 h1_249 h1_250 h1_251 h1_252 h1_253 h1_254 h1_255 h1_256 h1_257 h1_258 h1_259 h1_260 h1_261 h1_262 h1_263 h1_264 h1_265 h1_266 h1_267 h1_268 h1_269 h1_270 h1_271 h1_272 h1_274 h1_275 h1_276 h1_277 h1_278 h1_279 h1_280 h1_281 h1_282 h1_283 h1_284 h1_285 h1_286 h1_287 h1_288 h1_289 h1_290 h1_291 h1_292 h1_293 h1_294 h1_295 h1_296 h1_297 h1_298 h1_299 h1_300 h1_301 h1_302 h1_303 h1_304 h1_305 h1_306 h1_307 h1_308 h1_309 h1_329 h1_335 h1_337 h1_339 h1_345 h1_347 h1_368 h1_369 h1_370 h1_371 h1_372 h1_373 h1_374 h1_375 h1_376 h1_377 h1_378 h1_379 h1_380 h1_381 h1_386 h1_535 h1_536
             revert k A0_0 c0_0 l0_0 A0_1 c0_1 l0_1 A1_0 c1_0 l1_0 A1_1 c1_1 l1_1 r w HT hu24 hu26 HR0_0 HC0_0 HR0_1 HC0_1 HR1_0 HC1_0 HR1_1 HC1_1 t310 A3 c4b0 t311 A10 c11b0 t312 t315 A19 t318 t321 A20 t324 t327 t330 A21 t332 t335 A22 t339 t342 A23 t346 t349 t352 A24 h1_52 gb308 w26 GW308 GE308 gb309 w27 GW309 GE309 NB308_309 NB309_308 hnb28 hnc28 hcz29_0 hcz29_1 hfz29_0 hfz29_1 w30 hcz31_0 hcz31_1 hfz31_0 hfz31_1 w32 h1_75 h1_76 w33 h1_78 v313 v316 v319 v322 gb331 w42 hS_ GW331 GE331 NB308_331 NB331_308 NB309_331 NB331_309 h1_92 Ao43 co43 Ao45 co45 hs44 hfs44 hns44_0 hns44_1 hms44_0 hms44_1 hs46 hfs46 hns46_0 hns46_1 hms46_0 hms46_1 h1_109 hnb47 hnc47 w49 gb338 w50 GW338 GE338 NB308_338 NB338_308 NB309_338 NB338_309 NB331_338 NB338_331 Ao51 co51 hnb52 hnc52 hnb53 hnc53 hnb54 hnc54 Ao56 co56 hnb57 hnc57 w59 gb345 w60 GW345 GE345 NB308_345 NB345_308 NB309_345 NB345_309 NB331_345 NB345_331 NB338_345 NB345_338 Ao61 co61 hnb62 hnc62 hnb63 hnc63 hnb64 hnc64 hnb65 hnc65 Ao67 co67 w69 gb353 w70 h1_163 GW353 GE353 h1_166 NB308_353 NB353_308 h1_169 NB309_353 NB353_309 h1_172 NB331_353 NB353_331 h1_175 NB338_353 NB353_338 h1_178 NB345_353 NB353_345 h1_181 Ao71 co71 hnb72 hnc72 hnb73 hnc73 hnb74 hnc74 hnb75 hnc75 hnb76 hnc76 Ao78 co78 HO314 HO317 HO320 HO323 HO326 HO329 HO334 HO337 HO341 HO344 HO348 HO351 h1_208 h1_209 h1_210 h1_211 h1_212 h1_213 h1_214 h1_215 h1_216 h1_217 h1_218 h1_219 h1_220 h1_221 h1_222 h1_223 h1_224 h1_225 h1_226 h1_227 h1_228 h1_229 h1_230 h1_231 h1_232 h1_233 h1_234 h1_235 h1_236 h1_237 h1_238 h1_239 h1_240 h1_241 h1_242 h1_243 h1_244 h1_245 h1_246 h1_247 h1_248 h1_249 h1_250 h1_251 h1_252 h1_253 h1_254 h1_255 h1_256 h1_257 h1_258 h1_259 h1_260 h1_261 h1_262 h1_263 h1_264 h1_265 h1_266 h1_267 h1_268 h1_269 h1_270 h1_271 h1_272 u82 h1_274 h1_275 h1_276 h1_277 h1_278 h1_279 h1_280 h1_281 h1_282 h1_283 h1_284 h1_285 h1_286 h1_287 h1_288 h1_289 h1_290 h1_291 h1_292 h1_293 h1_294 h1_295 h1_296 h1_297 h1_298 h1_299 h1_300 h1_301 h1_302 h1_303 h1_304 h1_305 h1_306 h1_307 h1_308 h1_309 kj24 HJ24 t355 t358 A94 A95 t362 t365 A97 A98 t369 t370 t371 A100 t372 t373 t374 A101 w103 h1_329 w104 Ao105 co105 Ao106 co106 h1_335 w107 h1_337 w108 h1_339 w109 Ao110 co110 Ao111 co111 h1_345 w112 h1_347 hnb113 hnc113 hnb114 hnc114 hnb115 hnc115 hnb116 hnc116 hnb117 hnc117 w119 hnb120 hnc120 hnb121 hnc121 hnb122 hnc122 hnb123 hnc123 w125 h1_368 h1_369 h1_370 h1_371 h1_372 h1_373 h1_374 h1_375 h1_376 h1_377 h1_378 h1_379 h1_380 h1_381 HO357 HO360 HO364 HO367 h1_386 wc u17 u18 u19 u20 u21 u22 u23 u24 u25 u26 u27 u28 u29 u30 u31 u32 u33 u34 u35 u36 u37 u38 u39 u40 u41 u42 u43 u44 u45 u46 u47 u48 u49 u50 u51 u52 u53 u54 u55 u56 u57 u58 u59 u60 u61 u62 u63 u64 u65 u66 u67 u68 u69 u70 u71 u72 u73 u74 u75 u76 u77 u78 u79 u80 u81 u83 u84 u85 u86 u87 u88 u89 u90 u91 u92 u93 u94 u95 u96 u97 u98 u99 u100 u101 u102 u103 u104 u105 u106 u107 u108 u109 u110 u111 u112 u113 u114 u115 u116 u117 u118 hl339000_101 hl339001_101 hl346000_101 hl346001_101 kj101 HJ101 t376 t377 t378 A142 t379 A143 c144b0 c145b0 c145b1 t380 t383 A146 t386 t389 A147 t392 t395 t398 A148 HC149 hnb150 hnc150 hnb151 hnc151 hnb152 hnc152 hnb153 hnc153 hnb154 hnc154 hcz155_0 hcz155_1 hfz155_0 hfz155_1 w156 hcz157_0 hcz157_1 hfz157_0 hfz157_1 w158 h1_535 h1_536 HT_ HW_ w159 HO_332000 HO_332001 HO_339000 HO_339001 HO_346000 HO_346001 HO_354000 HO_354001 BK308 BK309 BK331 BK338 BK345 BK353 HB hHeld
             exact hRest_ trivial
            ·
             rw [if_neg c145] at H
             have c145b0 : (t379 == t376) = false := beq_eq_false_iff_ne.mpr c145
             have c145b1 : (t379 != t376) = true := bne_iff_ne.mpr c145
             obtain rfl := Option.some.inj H
             exact absurd HT.out (by decide)
       ·
        replace c99 := Bool.eq_false_iff.mpr c99
        subst c99
        have H1 : (some false) = some r := by rw [if_neg (show ¬ (false = true) by decide)] at H; exact H
        clear H
        have H := H1
        clear H1
        obtain rfl := Option.some.inj H
        exact absurd HT.out (by decide)
      ·
       replace c96 := Bool.eq_false_iff.mpr c96
       subst c96
       have H1 : (some false) = some r := by rw [if_neg (show ¬ (false = true) by decide)] at H; exact H
       clear H
       have H := H1
       clear H1
       obtain rfl := Option.some.inj H
       exact absurd HT.out (by decide)⟩
end Go.Proofs.Ytcnbajdnlkcjjaa.PFnExactRotate
