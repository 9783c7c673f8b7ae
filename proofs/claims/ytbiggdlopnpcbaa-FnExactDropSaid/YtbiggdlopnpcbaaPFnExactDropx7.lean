/- The walk of what a law reaches, for the law's row: written by a program of this session; it has no condition of its own. -/
import Derived.Test.YtbiggdlopnpcbaaPFnExactDropx0
import Derived.Test.YtbiggdlopnpcbaaQ
import Derived.Test.YtbiggdlopnpcbaaPFnExactDropx1
import Derived.Test.YtbiggdlopnpcbaaPFnExactDropx3
import Derived.Test.YtbiggdlopnpcbaaPFnExactDropx6
namespace Go.Proofs.Ytbiggdlopnpcbaa.PFnExactDrop
open Go.RowKit Go.Proofs.YtbiggdlopnpcbaaW.PrintWords Go.Proofs.YtbiggdlopnpcbaaW.PrintLast Go.Proofs.YtbiggdlopnpcbaaW.PrintMore Go.Proofs.YtbiggdlopnpcbaaQ
attribute [local go_sem] max2_int min2_int max_two min_two max_three min_three max_four min_four   -- for this text's walks alone
set_option linter.unusedVariables false
set_option linter.unusedSimpArgs false

/-! ### laws_FnExactDrop: function 3 -/
mutual
def laws_FnExactDrop.j0 : Nat → Int → Int → Bool → List Int → List Int → List Int → List Int → List Int → List Int → List Int → List Int → List Int → List Int → List Int → List Int → Option (Bool)
 | 0, _, _, _, _, _, _, _, _, _, _, _, _, _, _, _ => none
 | k + 1, x7, x11, x53, x357000, x357001, x358000, x358001, x380000, x380001, x387000, x387001, x394000, x394001, x402000, x402001 => if x53 = true then (some false) else ((laws_toArray.f k x357000 x357001).bind fun bt403 => ((laws_eqArray.f k x387000 x387001 bt403.1 bt403.2).bind fun t409 => (if t409 = true then ((laws_toArray.f k x358000 x358001).bind fun bt410 => ((laws_eqArray.f k x394000 x394001 bt410.1 bt410.2).bind fun t416 => (if t416 = true then ((laws_markArray.f k x387000 x387001 1).bind fun bt417 => ((laws_markArray.f k x394000 x394001 bt417.1).bind fun bt420 => (if bt420.1 < 0 then (laws_FnExactDrop.j1 k x7 true x357000 x357001 x358000 x358001 x380000 x380001 x402000 x402001) else ((laws_eqArray.f k x402000 x402001 x380000 x380001).bind fun t423 => (if t423 = true then (laws_FnExactDrop.j1 k x7 (x11 != x7) x357000 x357001 x358000 x358001 x380000 x380001 x402000 x402001) else (laws_FnExactDrop.j1 k x7 true x357000 x357001 x358000 x358001 x380000 x380001 x402000 x402001)))))) else (some false)))) else (some false))))
def laws_FnExactDrop.j1 : Nat → Int → Bool → List Int → List Int → List Int → List Int → List Int → List Int → List Int → List Int → Option (Bool)
 | 0, _, _, _, _, _, _, _, _, _, _ => none
 | k + 1, x7, x82, x357000, x357001, x358000, x358001, x380000, x380001, x402000, x402001 => if x82 = true then (some false) else ((laws_markArray.f k x402000 x402001 1).bind fun bt424 => ((laws_heldArray.f k bt424.2.1 bt424.2.2 1).bind fun t427 => (if t427 < 0 then (some false) else (if t427 = bt424.1 then ((laws_toArray.f k x357000 x357001).bind fun bt428 => ((laws_toArray.f k x358000 x358001).bind fun bt434 => ((impl_Drop.f k bt428.1 bt428.2 bt434.1 bt434.2).bind fun bt440 => ((laws_eqArray.f k bt440.1 bt440.2.1 x380000 x380001).bind fun t448 => (if t448 = true then (laws_FnExactDrop.j2 k bt424.1 (bt440.2.2 != x7) bt424.2.1 bt424.2.2) else (laws_FnExactDrop.j2 k bt424.1 true bt424.2.1 bt424.2.2)))))) else (some false)))))
def laws_FnExactDrop.j2 : Nat → Int → Bool → List Int → List Int → Option (Bool)
 | 0, _, _, _, _ => none
 | k + 1, x13, x110, x402000, x402001 => if x110 = true then (some false) else ((laws_heldArray.f k x402000 x402001 1).bind fun t449 => (if t449 < 0 then (some false) else (if t449 = x13 then (some true) else (some false))))
end
def laws_FnExactDrop.f (k : Nat) (l0_0 : List Int) (l0_1 : List Int) (l1_0 : List Int) (l1_1 : List Int) : Option (Bool) := (laws_szArray.f l0_0 l0_1 1048576).bind fun t358 => (if t358 < 0 then (some true) else ((laws_szArray.f l1_0 l1_1 t358).bind fun t359 => (if t359 < 0 then (some true) else ((laws_toArray.f k l0_0 l0_1).bind fun bt360 => ((laws_toArray.f k l1_0 l1_1).bind fun bt366 => ((spec_Drop.f k bt360.1 bt360.2 bt366.1 bt366.2).bind fun bt372 => ((laws_toArray.f k l0_0 l0_1).bind fun bt380 => ((laws_toArray.f k l1_0 l1_1).bind fun bt387 => ((impl_Drop.f k bt380.1 bt380.2 bt387.1 bt387.2).bind fun bt394 => ((laws_eqArray.f k bt394.1 bt394.2.1 bt372.1 bt372.2.1).bind fun t402 => (if t402 = true then (laws_FnExactDrop.j0 k bt372.2.2 bt394.2.2 (bt394.2.2 != bt372.2.2) l0_0 l0_1 l1_0 l1_1 bt372.1 bt372.2.1 bt380.1 bt380.2 bt387.1 bt387.2 bt394.1 bt394.2.1) else (laws_FnExactDrop.j0 k bt372.2.2 bt394.2.2 true l0_0 l0_1 l1_0 l1_1 bt372.1 bt372.2.1 bt380.1 bt380.2 bt387.1 bt387.2 bt394.1 bt394.2.1))))))))))))
theorem laws_FnExactDrop.mono_l : ∀ k, (∀ y0 y1 y2 y3 y4 y5 y6 y7 y8 y9 y10 y11 y12 y13 y14, LeO (laws_FnExactDrop.j0 k y0 y1 y2 y3 y4 y5 y6 y7 y8 y9 y10 y11 y12 y13 y14) (laws_FnExactDrop.j0 (k + 1) y0 y1 y2 y3 y4 y5 y6 y7 y8 y9 y10 y11 y12 y13 y14)) ∧ (∀ y0 y1 y2 y3 y4 y5 y6 y7 y8 y9, LeO (laws_FnExactDrop.j1 k y0 y1 y2 y3 y4 y5 y6 y7 y8 y9) (laws_FnExactDrop.j1 (k + 1) y0 y1 y2 y3 y4 y5 y6 y7 y8 y9)) ∧ (∀ y0 y1 y2 y3, LeO (laws_FnExactDrop.j2 k y0 y1 y2 y3) (laws_FnExactDrop.j2 (k + 1) y0 y1 y2 y3))
 | 0 => ⟨fun _ _ _ _ _ _ _ _ _ _ _ _ _ _ _ r h => by simp [laws_FnExactDrop.j0] at h, fun _ _ _ _ _ _ _ _ _ _ r h => by simp [laws_FnExactDrop.j1] at h, fun _ _ _ _ r h => by simp [laws_FnExactDrop.j2] at h⟩
 | k + 1 => by
  obtain ⟨ih0, ih1, ih2⟩ := laws_FnExactDrop.mono_l k
  refine ⟨?_, ?_, ?_⟩
  ·
   intro y0 y1 y2 y3 y4 y5 y6 y7 y8 y9 y10 y11 y12 y13 y14
   unfold laws_FnExactDrop.j0
   repeat' first
   | (with_reducible exact ih0 _ _ _ _ _ _ _ _ _ _ _ _ _ _ _)
   | (with_reducible exact ih1 _ _ _ _ _ _ _ _ _ _)
   | (with_reducible exact ih2 _ _ _ _)
   | (with_reducible exact impl_Drop.mono _ _ _ _ _)
   | (with_reducible exact laws_eqArray.mono _ _ _ _ _)
   | (with_reducible exact laws_heldArray.mono _ _ _ _)
   | (with_reducible exact laws_markArray.mono _ _ _ _)
   | (with_reducible exact laws_toArray.mono _ _ _)
   | (with_reducible exact spec_Drop.mono _ _ _ _ _)
   | (with_reducible exact LeO.refl _)
   | (with_reducible exact LeO.none _)
   | (with_reducible refine LeO.ite ?_ ?_)
   | (with_reducible refine LeO.bind ?_ (fun _ => ?_))
   | exact ih0 _ _ _ _ _ _ _ _ _ _ _ _ _ _ _
   | exact ih1 _ _ _ _ _ _ _ _ _ _
   | exact ih2 _ _ _ _
   | exact impl_Drop.mono _ _ _ _ _
   | exact laws_eqArray.mono _ _ _ _ _
   | exact laws_heldArray.mono _ _ _ _
   | exact laws_markArray.mono _ _ _ _
   | exact laws_toArray.mono _ _ _
   | exact spec_Drop.mono _ _ _ _ _
   | exact LeO.none _
   | refine LeO.ite ?_ ?_
   | refine LeO.bind ?_ (fun _ => ?_)
  ·
   intro y0 y1 y2 y3 y4 y5 y6 y7 y8 y9
   unfold laws_FnExactDrop.j1
   repeat' first
   | (with_reducible exact ih0 _ _ _ _ _ _ _ _ _ _ _ _ _ _ _)
   | (with_reducible exact ih1 _ _ _ _ _ _ _ _ _ _)
   | (with_reducible exact ih2 _ _ _ _)
   | (with_reducible exact impl_Drop.mono _ _ _ _ _)
   | (with_reducible exact laws_eqArray.mono _ _ _ _ _)
   | (with_reducible exact laws_heldArray.mono _ _ _ _)
   | (with_reducible exact laws_markArray.mono _ _ _ _)
   | (with_reducible exact laws_toArray.mono _ _ _)
   | (with_reducible exact spec_Drop.mono _ _ _ _ _)
   | (with_reducible exact LeO.refl _)
   | (with_reducible exact LeO.none _)
   | (with_reducible refine LeO.ite ?_ ?_)
   | (with_reducible refine LeO.bind ?_ (fun _ => ?_))
   | exact ih0 _ _ _ _ _ _ _ _ _ _ _ _ _ _ _
   | exact ih1 _ _ _ _ _ _ _ _ _ _
   | exact ih2 _ _ _ _
   | exact impl_Drop.mono _ _ _ _ _
   | exact laws_eqArray.mono _ _ _ _ _
   | exact laws_heldArray.mono _ _ _ _
   | exact laws_markArray.mono _ _ _ _
   | exact laws_toArray.mono _ _ _
   | exact spec_Drop.mono _ _ _ _ _
   | exact LeO.none _
   | refine LeO.ite ?_ ?_
   | refine LeO.bind ?_ (fun _ => ?_)
  ·
   intro y0 y1 y2 y3
   unfold laws_FnExactDrop.j2
   repeat' first
   | (with_reducible exact ih0 _ _ _ _ _ _ _ _ _ _ _ _ _ _ _)
   | (with_reducible exact ih1 _ _ _ _ _ _ _ _ _ _)
   | (with_reducible exact ih2 _ _ _ _)
   | (with_reducible exact impl_Drop.mono _ _ _ _ _)
   | (with_reducible exact laws_eqArray.mono _ _ _ _ _)
   | (with_reducible exact laws_heldArray.mono _ _ _ _)
   | (with_reducible exact laws_markArray.mono _ _ _ _)
   | (with_reducible exact laws_toArray.mono _ _ _)
   | (with_reducible exact spec_Drop.mono _ _ _ _ _)
   | (with_reducible exact LeO.refl _)
   | (with_reducible exact LeO.none _)
   | (with_reducible refine LeO.ite ?_ ?_)
   | (with_reducible refine LeO.bind ?_ (fun _ => ?_))
   | exact ih0 _ _ _ _ _ _ _ _ _ _ _ _ _ _ _
   | exact ih1 _ _ _ _ _ _ _ _ _ _
   | exact ih2 _ _ _ _
   | exact impl_Drop.mono _ _ _ _ _
   | exact laws_eqArray.mono _ _ _ _ _
   | exact laws_heldArray.mono _ _ _ _
   | exact laws_markArray.mono _ _ _ _
   | exact laws_toArray.mono _ _ _
   | exact spec_Drop.mono _ _ _ _ _
   | exact LeO.none _
   | refine LeO.ite ?_ ?_
   | refine LeO.bind ?_ (fun _ => ?_)
theorem laws_FnExactDrop.mono : ∀ a0 a1 a2 a3 k, LeO (laws_FnExactDrop.f k a0 a1 a2 a3) (laws_FnExactDrop.f (k + 1) a0 a1 a2 a3) := by
 intro a0 a1 a2 a3 k
 obtain ⟨ih0, ih1, ih2⟩ := laws_FnExactDrop.mono_l k
 unfold laws_FnExactDrop.f
 repeat' first
   | (with_reducible exact ih0 _ _ _ _ _ _ _ _ _ _ _ _ _ _ _)
   | (with_reducible exact ih1 _ _ _ _ _ _ _ _ _ _)
   | (with_reducible exact ih2 _ _ _ _)
   | (with_reducible exact impl_Drop.mono _ _ _ _ _)
   | (with_reducible exact laws_eqArray.mono _ _ _ _ _)
   | (with_reducible exact laws_heldArray.mono _ _ _ _)
   | (with_reducible exact laws_markArray.mono _ _ _ _)
   | (with_reducible exact laws_toArray.mono _ _ _)
   | (with_reducible exact spec_Drop.mono _ _ _ _ _)
   | (with_reducible exact LeO.refl _)
   | (with_reducible exact LeO.none _)
   | (with_reducible refine LeO.ite ?_ ?_)
   | (with_reducible refine LeO.bind ?_ (fun _ => ?_))
   | exact ih0 _ _ _ _ _ _ _ _ _ _ _ _ _ _ _
   | exact ih1 _ _ _ _ _ _ _ _ _ _
   | exact ih2 _ _ _ _
   | exact impl_Drop.mono _ _ _ _ _
   | exact laws_eqArray.mono _ _ _ _ _
   | exact laws_heldArray.mono _ _ _ _
   | exact laws_markArray.mono _ _ _ _
   | exact laws_toArray.mono _ _ _
   | exact spec_Drop.mono _ _ _ _ _
   | exact LeO.none _
   | refine LeO.ite ?_ ?_
   | refine LeO.bind ?_ (fun _ => ?_)
def laws_FnExactDrop.T8 : Bool × List (List Nat × List Nat) := (true, [([], []), ([0], [0]), ([], []), ([2, 1], [2]), ([1, 3, 3], [1, 3]), ([4], [4]), ([5], [5]), ([5], [5]), ([], []), ([8, 6, 4, 0, 1, 2, 3, 4, 5, 6, 8], [6, 8]), ([7, 9, 0, 1, 2, 3, 4, 5, 6, 7, 8, 9], [7])])
def laws_FnExactDrop.B8 : List Nat := [0, 1, 0, 7, 15, 31, 63, 63, 0, 383, 1023]
theorem laws_FnExactDrop.tab8 : rtab .any (opsOf Try.f3 8) = laws_FnExactDrop.T8 := by kernel_rfl
theorem laws_FnExactDrop.bits8 : waitsOk laws_FnExactDrop.T8.2 laws_FnExactDrop.B8 = true := by kernel_rfl
def laws_FnExactDrop.T31 : Bool × List (List Nat × List Nat) := (true, [([], []), ([0], [0]), ([], []), ([2, 1], [2]), ([1, 3, 3], [1, 3]), ([4], [4]), ([5], [5]), ([5], [5]), ([], []), ([8, 6, 4, 0, 1, 2, 3, 4, 5, 6, 8], [6, 8]), ([7, 9, 0, 1, 2, 3, 4, 5, 6, 7, 8, 9], [7])])
def laws_FnExactDrop.B31 : List Nat := [0, 1, 0, 7, 15, 31, 63, 63, 0, 383, 1023]
theorem laws_FnExactDrop.tab31 : rtab .any (opsOf Try.f3 31) = laws_FnExactDrop.T31 := by kernel_rfl
theorem laws_FnExactDrop.bits31 : waitsOk laws_FnExactDrop.T31.2 laws_FnExactDrop.B31 = true := by kernel_rfl
set_option maxHeartbeats 8000000 in
set_option maxRecDepth 100000 in
def laws_FnExactDrop.part1 : {P : Prop // (True → P) → ∀ (k : Nat) (A0_0 : Option Addr) (c0_0 : Nat) (l0_0 : List Int) (A0_1 : Option Addr) (c0_1 : Nat) (l0_1 : List Int) (A1_0 : Option Addr) (c1_0 : Nat) (l1_0 : List Int) (A1_1 : Option Addr) (c1_1 : Nat) (l1_1 : List Int) (r : Bool) (w : World) (hr0_0 : Kd.C (Kd.int .i64) w A0_0 l0_0.length l0_0) (hc0_0 : l0_0.length ≤ c0_0) (hr0_1 : Kd.C (Kd.int .i64) w A0_1 l0_1.length l0_1) (hc0_1 : l0_1.length ≤ c0_1) (hr1_0 : Kd.C (Kd.int .i64) w A1_0 l1_0.length l1_0) (hc1_0 : l1_0.length ≤ c1_0) (hr1_1 : Kd.C (Kd.int .i64) w A1_1 l1_1.length l1_1) (hc1_1 : l1_1.length ≤ c1_1) (h : laws_FnExactDrop.f k l0_0 l0_1 l1_0 l1_1 = some r) (hT : r = true), Calls Try.prog 3 #[.agg #[.slice A0_0 l0_0.length c0_0, .slice A0_1 l0_1.length c0_1], .agg #[.slice A1_0 l1_0.length c1_0, .slice A1_1 l1_1.length c1_1]] w fun e w' => e = .returned (.bool r) ∧ Below w.heap.size w w'} := ⟨_, fun hRest_ => by
 intro k A0_0 c0_0 l0_0 A0_1 c0_1 l0_1 A1_0 c1_0 l1_0 A1_1 c1_1 l1_1 r w hr0_0 hc0_0 hr0_1 hc0_1 hr1_0 hc1_0 hr1_1 hc1_1 h hT
 have HT := Aside0.mk hT
 clear hT
 have hu24 := Try.underlying24
 have hu26 := Try.underlying26
 have HR0_0 := Aside0.mk hr0_0
 have HC0_0 := Aside0.mk hc0_0
 clear hr0_0 hc0_0
 have HR0_1 := Aside0.mk hr0_1
 have HC0_1 := Aside0.mk hc0_1
 clear hr0_1 hc0_1
 have HR1_0 := Aside0.mk hr1_0
 have HC1_0 := Aside0.mk hc1_0
 clear hr1_0 hc1_0
 have HR1_1 := Aside0.mk hr1_1
 have HC1_1 := Aside0.mk hc1_1
 clear hr1_1 hc1_1
 have HB := Aside0.mk (Below.refl w.heap.size w)
 have H : ((laws_szArray.f l0_0 l0_1 1048576).bind fun t358 => (if t358 < 0 then (some true) else ((laws_szArray.f l1_0 l1_1 t358).bind fun t359 => (if t359 < 0 then (some true) else ((laws_toArray.f k l0_0 l0_1).bind fun bt360 => ((laws_toArray.f k l1_0 l1_1).bind fun bt366 => ((spec_Drop.f k bt360.1 bt360.2 bt366.1 bt366.2).bind fun bt372 => ((laws_toArray.f k l0_0 l0_1).bind fun bt380 => ((laws_toArray.f k l1_0 l1_1).bind fun bt387 => ((impl_Drop.f k bt380.1 bt380.2 bt387.1 bt387.2).bind fun bt394 => ((laws_eqArray.f k bt394.1 bt394.2.1 bt372.1 bt372.2.1).bind fun t402 => (if t402 = true then (laws_FnExactDrop.j0 k bt372.2.2 bt394.2.2 (bt394.2.2 != bt372.2.2) l0_0 l0_1 l1_0 l1_1 bt372.1 bt372.2.1 bt380.1 bt380.2 bt387.1 bt387.2 bt394.1 bt394.2.1) else (laws_FnExactDrop.j0 k bt372.2.2 bt394.2.2 true l0_0 l0_1 l1_0 l1_1 bt372.1 bt372.2.1 bt380.1 bt380.2 bt387.1 bt387.2 bt394.1 bt394.2.1))))))))))))) = some r := h
 clear h
 replace H := Option.bind_eq_some_iff.mp H
 obtain ⟨t358, A30, H⟩ := H
 replace H : (if t358 < 0 then (some true) else ((laws_szArray.f l1_0 l1_1 t358).bind fun t359 => (if t359 < 0 then (some true) else ((laws_toArray.f k l0_0 l0_1).bind fun bt360 => ((laws_toArray.f k l1_0 l1_1).bind fun bt366 => ((spec_Drop.f k bt360.1 bt360.2 bt366.1 bt366.2).bind fun bt372 => ((laws_toArray.f k l0_0 l0_1).bind fun bt380 => ((laws_toArray.f k l1_0 l1_1).bind fun bt387 => ((impl_Drop.f k bt380.1 bt380.2 bt387.1 bt387.2).bind fun bt394 => ((laws_eqArray.f k bt394.1 bt394.2.1 bt372.1 bt372.2.1).bind fun t402 => (if t402 = true then (laws_FnExactDrop.j0 k bt372.2.2 bt394.2.2 (bt394.2.2 != bt372.2.2) l0_0 l0_1 l1_0 l1_1 bt372.1 bt372.2.1 bt380.1 bt380.2 bt387.1 bt387.2 bt394.1 bt394.2.1) else (laws_FnExactDrop.j0 k bt372.2.2 bt394.2.2 true l0_0 l0_1 l1_0 l1_1 bt372.1 bt372.2.1 bt380.1 bt380.2 bt387.1 bt387.2 bt394.1 bt394.2.1)))))))))))) = some r := H
 have A3 := Aside0.mk A30
 clear A30
 by_cases c4 : t358 < 0
 ·
  rw [if_pos c4] at H
  have c4b0 : decide (t358 < 0) = true := decide_eq_true c4
  clear c4
  obtain rfl := Option.some.inj H
  go_enter Try.func3, Try.ntmps3
  go_wp2_with (first | ((with_reducible refine gate_dst (N := 2) rfl ?_); refine box_event ?hg (N := 2) ?hd (cs := #[.slice A0_0 l0_0.length c0_0, .slice A0_1 l0_1.length c0_1]) (t := 24) ?hr ?_; (case hd => rfl); (case hg => rfl); (case hr => first | (go_simp; done) | (go_simp; rfl)); intro gb356 hg w5 hbox hb; have BK356 := Aside0.mk (hbox); have GW356 := Aside0.mk ((by rw [hg]; exact (below_size (bU HB.out)) : w.heap.size ≤ gb356)); have GE356 := Aside0.mk ((by rw [hg]; exact (below_size (bU HB.out)) : w.heap.size ≤ gb356)); replace HB := Aside0.mk (below_step (bU HB.out) hb); clear hb hbox hg) | ((with_reducible refine gate_dst (N := 3) rfl ?_); refine box_event ?hg (N := 3) ?hd (cs := #[.slice A1_0 l1_0.length c1_0, .slice A1_1 l1_1.length c1_1]) (t := 24) ?hr ?_; (case hd => rfl); (case hg => rfl); (case hr => first | (go_simp; done) | (go_simp; rfl)); intro gb357 hg w6 hbox hb; have BK357 := Aside0.mk (hbox); have GW357 := Aside0.mk ((by rw [hg]; exact (below_size (bS1 HB.out GE356.out)) : w.heap.size ≤ gb357)); have GE357 := Aside0.mk ((by rw [hg]; exact (below_size (bS1 HB.out GE356.out)) : w.heap.size ≤ gb357)); replace HB := Aside0.mk (below_step (bS1 HB.out GE356.out) hb); have NB356_357 := Aside0.mk ((by rw [hg]; exact Nat.ne_of_lt (blk_lt (g := gb356) (o := .cells #[.slice A0_0 l0_0.length c0_0, .slice A0_1 l0_1.length c0_1] 24 (0, 0)) (kU BK356.out)) : gb356 ≠ gb357)); have NB357_356 := Aside0.mk ((by rw [hg]; exact Nat.ne_of_gt (blk_lt (g := gb356) (o := .cells #[.slice A0_0 l0_0.length c0_0, .slice A0_1 l0_1.length c0_1] 24 (0, 0)) (kU BK356.out)) : gb357 ≠ gb356)); replace BK356 := Aside0.mk (blk_below (g := gb356) (o := .cells #[.slice A0_0 l0_0.length c0_0, .slice A0_1 l0_1.length c0_1] 24 (0, 0)) (kU BK356.out) hb); clear hb hbox hg; have hnb7 := NB356_357.out; have hnc7 := NB357_356.out; have hcz8_0 : w6.cell? ⟨gb356, 0, none⟩ = some (.slice A0_0 l0_0.length c0_0) := (blk_cell BK356.out 0).trans rfl; have hcz8_1 : w6.cell? ⟨gb356, 1, none⟩ = some (.slice A0_1 l0_1.length c0_1) := (blk_cell BK356.out 1).trans rfl; have hfz8_0 := blk_frozen BK356.out 0; have hfz8_1 := blk_frozen BK356.out 1) | ((with_reducible refine gate_callee (f := 8) rfl ?_); refine goesL_ (some 19) rfl rfl Try.func8 (by kernel_rfl) rfl #[.agg #[.slice A0_0 l0_0.length c0_0, .slice A0_1 l0_1.length c0_1], .int .i64 1048576] rfl (by (try simp only [List.map_toArray, List.map_cons, List.map_nil]); first | done | rfl | (simp only [List.length_drop, List.length_take]; rfl)) ?_; (with_reducible refine (laws_szArray.calls _ _ l0_0 _ _ l0_1 1048576 t358 _ ?side1 ?side2 ?side3 ?side4 A3.out).mono ?_); (case side1 => exact cU (Kd.C_below HR0_0.out HB.out)); (case side2 => exact HC0_0.out); (case side3 => exact cU (Kd.C_below HR0_1.out HB.out)); (case side4 => exact HC0_1.out); rintro e w9 ⟨rfl, hb⟩; refine ⟨_, rfl, ?_⟩; replace BK356 := Aside0.mk (blk_below (g := gb356) (o := .cells #[.slice A0_0 l0_0.length c0_0, .slice A0_1 l0_1.length c0_1] 24 (0, 0)) (kU BK356.out) hb); replace BK357 := Aside0.mk (blk_below (g := gb357) (o := .cells #[.slice A1_0 l1_0.length c1_0, .slice A1_1 l1_1.length c1_1] 24 (0, 0)) (kU BK357.out) hb); replace HB := Aside0.mk (below_step (bS2 HB.out GE356.out GE357.out) hb); (try clear hb); (try clear hb2); (try clear hk); (try clear hi)))
  go_ret
  exact ⟨by first | rfl | (simp [errW_none, errW_some] <;> rfl) | (simp [*, errW_none, errW_some] <;> rfl), by repeat (first | (with_reducible first | exact HB.out | apply below_alloc | apply pw_below_drewN | apply below_drew1 | refine below_set ?_ GE356.out | refine below_set ?_ GE357.out) | exact HB.out)⟩
 ·
  rw [if_neg c4] at H
  have c4b0 : decide (t358 < 0) = false := decide_eq_false c4
  clear c4
  replace H := Option.bind_eq_some_iff.mp H
  obtain ⟨t359, A100, H⟩ := H
  replace H : (if t359 < 0 then (some true) else ((laws_toArray.f k l0_0 l0_1).bind fun bt360 => ((laws_toArray.f k l1_0 l1_1).bind fun bt366 => ((spec_Drop.f k bt360.1 bt360.2 bt366.1 bt366.2).bind fun bt372 => ((laws_toArray.f k l0_0 l0_1).bind fun bt380 => ((laws_toArray.f k l1_0 l1_1).bind fun bt387 => ((impl_Drop.f k bt380.1 bt380.2 bt387.1 bt387.2).bind fun bt394 => ((laws_eqArray.f k bt394.1 bt394.2.1 bt372.1 bt372.2.1).bind fun t402 => (if t402 = true then (laws_FnExactDrop.j0 k bt372.2.2 bt394.2.2 (bt394.2.2 != bt372.2.2) l0_0 l0_1 l1_0 l1_1 bt372.1 bt372.2.1 bt380.1 bt380.2 bt387.1 bt387.2 bt394.1 bt394.2.1) else (laws_FnExactDrop.j0 k bt372.2.2 bt394.2.2 true l0_0 l0_1 l1_0 l1_1 bt372.1 bt372.2.1 bt380.1 bt380.2 bt387.1 bt387.2 bt394.1 bt394.2.1)))))))))) = some r := H
  have A10 := Aside0.mk A100
  clear A100
  by_cases c11 : t359 < 0
  ·
   rw [if_pos c11] at H
   have c11b0 : decide (t359 < 0) = true := decide_eq_true c11
   clear c11
   obtain rfl := Option.some.inj H
   go_enter Try.func3, Try.ntmps3
   go_wp2_with (first | ((with_reducible refine gate_dst (N := 2) rfl ?_); refine box_event ?hg (N := 2) ?hd (cs := #[.slice A0_0 l0_0.length c0_0, .slice A0_1 l0_1.length c0_1]) (t := 24) ?hr ?_; (case hd => rfl); (case hg => rfl); (case hr => first | (go_simp; done) | (go_simp; rfl)); intro gb356 hg w12 hbox hb; have BK356 := Aside0.mk (hbox); have GW356 := Aside0.mk ((by rw [hg]; exact (below_size (bU HB.out)) : w.heap.size ≤ gb356)); have GE356 := Aside0.mk ((by rw [hg]; exact (below_size (bU HB.out)) : w.heap.size ≤ gb356)); replace HB := Aside0.mk (below_step (bU HB.out) hb); clear hb hbox hg) | ((with_reducible refine gate_dst (N := 3) rfl ?_); refine box_event ?hg (N := 3) ?hd (cs := #[.slice A1_0 l1_0.length c1_0, .slice A1_1 l1_1.length c1_1]) (t := 24) ?hr ?_; (case hd => rfl); (case hg => rfl); (case hr => first | (go_simp; done) | (go_simp; rfl)); intro gb357 hg w13 hbox hb; have BK357 := Aside0.mk (hbox); have GW357 := Aside0.mk ((by rw [hg]; exact (below_size (bS1 HB.out GE356.out)) : w.heap.size ≤ gb357)); have GE357 := Aside0.mk ((by rw [hg]; exact (below_size (bS1 HB.out GE356.out)) : w.heap.size ≤ gb357)); replace HB := Aside0.mk (below_step (bS1 HB.out GE356.out) hb); have NB356_357 := Aside0.mk ((by rw [hg]; exact Nat.ne_of_lt (blk_lt (g := gb356) (o := .cells #[.slice A0_0 l0_0.length c0_0, .slice A0_1 l0_1.length c0_1] 24 (0, 0)) (kU BK356.out)) : gb356 ≠ gb357)); have NB357_356 := Aside0.mk ((by rw [hg]; exact Nat.ne_of_gt (blk_lt (g := gb356) (o := .cells #[.slice A0_0 l0_0.length c0_0, .slice A0_1 l0_1.length c0_1] 24 (0, 0)) (kU BK356.out)) : gb357 ≠ gb356)); replace BK356 := Aside0.mk (blk_below (g := gb356) (o := .cells #[.slice A0_0 l0_0.length c0_0, .slice A0_1 l0_1.length c0_1] 24 (0, 0)) (kU BK356.out) hb); clear hb hbox hg; have hnb14 := NB356_357.out; have hnc14 := NB357_356.out; have hcz15_0 : w13.cell? ⟨gb356, 0, none⟩ = some (.slice A0_0 l0_0.length c0_0) := (blk_cell BK356.out 0).trans rfl; have hcz15_1 : w13.cell? ⟨gb356, 1, none⟩ = some (.slice A0_1 l0_1.length c0_1) := (blk_cell BK356.out 1).trans rfl; have hfz15_0 := blk_frozen BK356.out 0; have hfz15_1 := blk_frozen BK356.out 1) | ((with_reducible refine gate_callee (f := 8) rfl ?_); refine goesL_ (some 19) rfl rfl Try.func8 (by kernel_rfl) rfl #[.agg #[.slice A0_0 l0_0.length c0_0, .slice A0_1 l0_1.length c0_1], .int .i64 1048576] rfl (by (try simp only [List.map_toArray, List.map_cons, List.map_nil]); first | done | rfl | (simp only [List.length_drop, List.length_take]; rfl)) ?_; (with_reducible refine (laws_szArray.calls _ _ l0_0 _ _ l0_1 1048576 t358 _ ?side1 ?side2 ?side3 ?side4 A3.out).mono ?_); (case side1 => exact cU (Kd.C_below HR0_0.out HB.out)); (case side2 => exact HC0_0.out); (case side3 => exact cU (Kd.C_below HR0_1.out HB.out)); (case side4 => exact HC0_1.out); rintro e w16 ⟨rfl, hb⟩; refine ⟨_, rfl, ?_⟩; replace BK356 := Aside0.mk (blk_below (g := gb356) (o := .cells #[.slice A0_0 l0_0.length c0_0, .slice A0_1 l0_1.length c0_1] 24 (0, 0)) (kU BK356.out) hb); replace BK357 := Aside0.mk (blk_below (g := gb357) (o := .cells #[.slice A1_0 l1_0.length c1_0, .slice A1_1 l1_1.length c1_1] 24 (0, 0)) (kU BK357.out) hb); replace HB := Aside0.mk (below_step (bS2 HB.out GE356.out GE357.out) hb); (try clear hb); (try clear hb2); (try clear hk); (try clear hi); have hcz17_0 : w16.cell? ⟨gb357, 0, none⟩ = some (.slice A1_0 l1_0.length c1_0) := (blk_cell BK357.out 0).trans rfl; have hcz17_1 : w16.cell? ⟨gb357, 1, none⟩ = some (.slice A1_1 l1_1.length c1_1) := (blk_cell BK357.out 1).trans rfl; have hfz17_0 := blk_frozen BK357.out 0; have hfz17_1 := blk_frozen BK357.out 1) | ((with_reducible refine gate_callee (f := 8) rfl ?_); refine goesL_ (some 24) rfl rfl Try.func8 (by kernel_rfl) rfl #[.agg #[.slice A1_0 l1_0.length c1_0, .slice A1_1 l1_1.length c1_1], .int .i64 t358] rfl (by (try simp only [List.map_toArray, List.map_cons, List.map_nil]); first | done | rfl | (simp only [List.length_drop, List.length_take]; rfl)) ?_; (with_reducible refine (laws_szArray.calls _ _ l1_0 _ _ l1_1 t358 t359 _ ?side1 ?side2 ?side3 ?side4 A10.out).mono ?_); (case side1 => exact cU (Kd.C_below HR1_0.out HB.out)); (case side2 => exact HC1_0.out); (case side3 => exact cU (Kd.C_below HR1_1.out HB.out)); (case side4 => exact HC1_1.out); rintro e w18 ⟨rfl, hb⟩; refine ⟨_, rfl, ?_⟩; replace BK356 := Aside0.mk (blk_below (g := gb356) (o := .cells #[.slice A0_0 l0_0.length c0_0, .slice A0_1 l0_1.length c0_1] 24 (0, 0)) (kU BK356.out) hb); replace BK357 := Aside0.mk (blk_below (g := gb357) (o := .cells #[.slice A1_0 l1_0.length c1_0, .slice A1_1 l1_1.length c1_1] 24 (0, 0)) (kU BK357.out) hb); replace HB := Aside0.mk (below_step (bS2 HB.out GE356.out GE357.out) hb); (try clear hb); (try clear hb2); (try clear hk); (try clear hi)))
   go_ret
   exact ⟨by first | rfl | (simp [errW_none, errW_some] <;> rfl) | (simp [*, errW_none, errW_some] <;> rfl), by repeat (first | (with_reducible first | exact HB.out | apply below_alloc | apply pw_below_drewN | apply below_drew1 | refine below_set ?_ GE356.out | refine below_set ?_ GE357.out) | exact HB.out)⟩
  ·
   rw [if_neg c11] at H
   have c11b0 : decide (t359 < 0) = false := decide_eq_false c11
   clear c11
   replace H := Option.bind_eq_some_iff.mp H
   obtain ⟨⟨t360, t363⟩, A190, H⟩ := H
   replace H : ((laws_toArray.f k l1_0 l1_1).bind fun bt366 => ((spec_Drop.f k t360 t363 bt366.1 bt366.2).bind fun bt372 => ((laws_toArray.f k l0_0 l0_1).bind fun bt380 => ((laws_toArray.f k l1_0 l1_1).bind fun bt387 => ((impl_Drop.f k bt380.1 bt380.2 bt387.1 bt387.2).bind fun bt394 => ((laws_eqArray.f k bt394.1 bt394.2.1 bt372.1 bt372.2.1).bind fun t402 => (if t402 = true then (laws_FnExactDrop.j0 k bt372.2.2 bt394.2.2 (bt394.2.2 != bt372.2.2) l0_0 l0_1 l1_0 l1_1 bt372.1 bt372.2.1 bt380.1 bt380.2 bt387.1 bt387.2 bt394.1 bt394.2.1) else (laws_FnExactDrop.j0 k bt372.2.2 bt394.2.2 true l0_0 l0_1 l1_0 l1_1 bt372.1 bt372.2.1 bt380.1 bt380.2 bt387.1 bt387.2 bt394.1 bt394.2.1)))))))) = some r := H
   have A19 := Aside0.mk A190
   clear A190
   replace H := Option.bind_eq_some_iff.mp H
   obtain ⟨⟨t366, t369⟩, A200, H⟩ := H
   replace H : ((spec_Drop.f k t360 t363 t366 t369).bind fun bt372 => ((laws_toArray.f k l0_0 l0_1).bind fun bt380 => ((laws_toArray.f k l1_0 l1_1).bind fun bt387 => ((impl_Drop.f k bt380.1 bt380.2 bt387.1 bt387.2).bind fun bt394 => ((laws_eqArray.f k bt394.1 bt394.2.1 bt372.1 bt372.2.1).bind fun t402 => (if t402 = true then (laws_FnExactDrop.j0 k bt372.2.2 bt394.2.2 (bt394.2.2 != bt372.2.2) l0_0 l0_1 l1_0 l1_1 bt372.1 bt372.2.1 bt380.1 bt380.2 bt387.1 bt387.2 bt394.1 bt394.2.1) else (laws_FnExactDrop.j0 k bt372.2.2 bt394.2.2 true l0_0 l0_1 l1_0 l1_1 bt372.1 bt372.2.1 bt380.1 bt380.2 bt387.1 bt387.2 bt394.1 bt394.2.1))))))) = some r := H
   have A20 := Aside0.mk A200
   clear A200
   replace H := Option.bind_eq_some_iff.mp H
   obtain ⟨⟨t372, t375, t378⟩, A210, H⟩ := H
   replace H : ((laws_toArray.f k l0_0 l0_1).bind fun bt380 => ((laws_toArray.f k l1_0 l1_1).bind fun bt387 => ((impl_Drop.f k bt380.1 bt380.2 bt387.1 bt387.2).bind fun bt394 => ((laws_eqArray.f k bt394.1 bt394.2.1 t372 t375).bind fun t402 => (if t402 = true then (laws_FnExactDrop.j0 k t378 bt394.2.2 (bt394.2.2 != t378) l0_0 l0_1 l1_0 l1_1 t372 t375 bt380.1 bt380.2 bt387.1 bt387.2 bt394.1 bt394.2.1) else (laws_FnExactDrop.j0 k t378 bt394.2.2 true l0_0 l0_1 l1_0 l1_1 t372 t375 bt380.1 bt380.2 bt387.1 bt387.2 bt394.1 bt394.2.1)))))) = some r := H
   have A21 := Aside0.mk A210
   clear A210
   replace H := Option.bind_eq_some_iff.mp H
   obtain ⟨⟨t380, t383⟩, A220, H⟩ := H
   replace H : ((laws_toArray.f k l1_0 l1_1).bind fun bt387 => ((impl_Drop.f k t380 t383 bt387.1 bt387.2).bind fun bt394 => ((laws_eqArray.f k bt394.1 bt394.2.1 t372 t375).bind fun t402 => (if t402 = true then (laws_FnExactDrop.j0 k t378 bt394.2.2 (bt394.2.2 != t378) l0_0 l0_1 l1_0 l1_1 t372 t375 t380 t383 bt387.1 bt387.2 bt394.1 bt394.2.1) else (laws_FnExactDrop.j0 k t378 bt394.2.2 true l0_0 l0_1 l1_0 l1_1 t372 t375 t380 t383 bt387.1 bt387.2 bt394.1 bt394.2.1))))) = some r := H
   have A22 := Aside0.mk A220
   clear A220
   replace H := Option.bind_eq_some_iff.mp H
   obtain ⟨⟨t387, t390⟩, A230, H⟩ := H
   replace H : ((impl_Drop.f k t380 t383 t387 t390).bind fun bt394 => ((laws_eqArray.f k bt394.1 bt394.2.1 t372 t375).bind fun t402 => (if t402 = true then (laws_FnExactDrop.j0 k t378 bt394.2.2 (bt394.2.2 != t378) l0_0 l0_1 l1_0 l1_1 t372 t375 t380 t383 t387 t390 bt394.1 bt394.2.1) else (laws_FnExactDrop.j0 k t378 bt394.2.2 true l0_0 l0_1 l1_0 l1_1 t372 t375 t380 t383 t387 t390 bt394.1 bt394.2.1)))) = some r := H
   have A23 := Aside0.mk A230
   clear A230
   replace H := Option.bind_eq_some_iff.mp H
   obtain ⟨⟨t394, t397, t400⟩, A240, H⟩ := H
   replace H : ((laws_eqArray.f k t394 t397 t372 t375).bind fun t402 => (if t402 = true then (laws_FnExactDrop.j0 k t378 t400 (t400 != t378) l0_0 l0_1 l1_0 l1_1 t372 t375 t380 t383 t387 t390 t394 t397) else (laws_FnExactDrop.j0 k t378 t400 true l0_0 l0_1 l1_0 l1_1 t372 t375 t380 t383 t387 t390 t394 t397))) = some r := H
   have A24 := Aside0.mk A240
   clear A240
   have HC25 := Aside0.mk H
   clear H
   go_enter Try.func3, Try.ntmps3
   try go_wp2_with (first | ((with_reducible refine gate_dst (N := 2) rfl ?_); refine box_event ?hg (N := 2) ?hd (cs := #[.slice A0_0 l0_0.length c0_0, .slice A0_1 l0_1.length c0_1]) (t := 24) ?hr ?_; (case hd => rfl); (case hg => rfl); (case hr => first | (go_simp; done) | (go_simp; rfl)); intro gb356 hg w26 hbox hb; have BK356 := Aside0.mk (hbox); have GW356 := Aside0.mk ((by rw [hg]; exact (below_size (bU HB.out)) : w.heap.size ≤ gb356)); have GE356 := Aside0.mk ((by rw [hg]; exact (below_size (bU HB.out)) : w.heap.size ≤ gb356)); replace HB := Aside0.mk (below_step (bU HB.out) hb); clear hb hbox hg) | ((with_reducible refine gate_dst (N := 3) rfl ?_); refine box_event ?hg (N := 3) ?hd (cs := #[.slice A1_0 l1_0.length c1_0, .slice A1_1 l1_1.length c1_1]) (t := 24) ?hr ?_; (case hd => rfl); (case hg => rfl); (case hr => first | (go_simp; done) | (go_simp; rfl)); intro gb357 hg w27 hbox hb; have BK357 := Aside0.mk (hbox); have GW357 := Aside0.mk ((by rw [hg]; exact (below_size (bS1 HB.out GE356.out)) : w.heap.size ≤ gb357)); have GE357 := Aside0.mk ((by rw [hg]; exact (below_size (bS1 HB.out GE356.out)) : w.heap.size ≤ gb357)); replace HB := Aside0.mk (below_step (bS1 HB.out GE356.out) hb); have NB356_357 := Aside0.mk ((by rw [hg]; exact Nat.ne_of_lt (blk_lt (g := gb356) (o := .cells #[.slice A0_0 l0_0.length c0_0, .slice A0_1 l0_1.length c0_1] 24 (0, 0)) (kU BK356.out)) : gb356 ≠ gb357)); have NB357_356 := Aside0.mk ((by rw [hg]; exact Nat.ne_of_gt (blk_lt (g := gb356) (o := .cells #[.slice A0_0 l0_0.length c0_0, .slice A0_1 l0_1.length c0_1] 24 (0, 0)) (kU BK356.out)) : gb357 ≠ gb356)); replace BK356 := Aside0.mk (blk_below (g := gb356) (o := .cells #[.slice A0_0 l0_0.length c0_0, .slice A0_1 l0_1.length c0_1] 24 (0, 0)) (kU BK356.out) hb); clear hb hbox hg; have hnb28 := NB356_357.out; have hnc28 := NB357_356.out; have hcz29_0 : w27.cell? ⟨gb356, 0, none⟩ = some (.slice A0_0 l0_0.length c0_0) := (blk_cell BK356.out 0).trans rfl; have hcz29_1 : w27.cell? ⟨gb356, 1, none⟩ = some (.slice A0_1 l0_1.length c0_1) := (blk_cell BK356.out 1).trans rfl; have hfz29_0 := blk_frozen BK356.out 0; have hfz29_1 := blk_frozen BK356.out 1) | ((with_reducible refine gate_callee (f := 8) rfl ?_); refine goesL_ (some 19) rfl rfl Try.func8 (by kernel_rfl) rfl #[.agg #[.slice A0_0 l0_0.length c0_0, .slice A0_1 l0_1.length c0_1], .int .i64 1048576] rfl (by (try simp only [List.map_toArray, List.map_cons, List.map_nil]); first | done | rfl | (simp only [List.length_drop, List.length_take]; rfl)) ?_; (with_reducible refine (laws_szArray.calls _ _ l0_0 _ _ l0_1 1048576 t358 _ ?side1 ?side2 ?side3 ?side4 A3.out).mono ?_); (case side1 => exact cU (Kd.C_below HR0_0.out HB.out)); (case side2 => exact HC0_0.out); (case side3 => exact cU (Kd.C_below HR0_1.out HB.out)); (case side4 => exact HC0_1.out); rintro e w30 ⟨rfl, hb⟩; refine ⟨_, rfl, ?_⟩; replace BK356 := Aside0.mk (blk_below (g := gb356) (o := .cells #[.slice A0_0 l0_0.length c0_0, .slice A0_1 l0_1.length c0_1] 24 (0, 0)) (kU BK356.out) hb); replace BK357 := Aside0.mk (blk_below (g := gb357) (o := .cells #[.slice A1_0 l1_0.length c1_0, .slice A1_1 l1_1.length c1_1] 24 (0, 0)) (kU BK357.out) hb); replace HB := Aside0.mk (below_step (bS2 HB.out GE356.out GE357.out) hb); (try clear hb); (try clear hb2); (try clear hk); (try clear hi); have hcz31_0 : w30.cell? ⟨gb357, 0, none⟩ = some (.slice A1_0 l1_0.length c1_0) := (blk_cell BK357.out 0).trans rfl; have hcz31_1 : w30.cell? ⟨gb357, 1, none⟩ = some (.slice A1_1 l1_1.length c1_1) := (blk_cell BK357.out 1).trans rfl; have hfz31_0 := blk_frozen BK357.out 0; have hfz31_1 := blk_frozen BK357.out 1) | ((with_reducible refine gate_callee (f := 8) rfl ?_); refine goesL_ (some 24) rfl rfl Try.func8 (by kernel_rfl) rfl #[.agg #[.slice A1_0 l1_0.length c1_0, .slice A1_1 l1_1.length c1_1], .int .i64 t358] rfl (by (try simp only [List.map_toArray, List.map_cons, List.map_nil]); first | done | rfl | (simp only [List.length_drop, List.length_take]; rfl)) ?_; (with_reducible refine (laws_szArray.calls _ _ l1_0 _ _ l1_1 t358 t359 _ ?side1 ?side2 ?side3 ?side4 A10.out).mono ?_); (case side1 => exact cU (Kd.C_below HR1_0.out HB.out)); (case side2 => exact HC1_0.out); (case side3 => exact cU (Kd.C_below HR1_1.out HB.out)); (case side4 => exact HC1_1.out); rintro e w32 ⟨rfl, hb⟩; refine ⟨_, rfl, ?_⟩; replace BK356 := Aside0.mk (blk_below (g := gb356) (o := .cells #[.slice A0_0 l0_0.length c0_0, .slice A0_1 l0_1.length c0_1] 24 (0, 0)) (kU BK356.out) hb); replace BK357 := Aside0.mk (blk_below (g := gb357) (o := .cells #[.slice A1_0 l1_0.length c1_0, .slice A1_1 l1_1.length c1_1] 24 (0, 0)) (kU BK357.out) hb); replace HB := Aside0.mk (below_step (bS2 HB.out GE356.out GE357.out) hb); (try clear hb); (try clear hb2); (try clear hk); (try clear hi)))
   replace BK356 := Aside0.mk (blk_drew BK356.out)
   replace BK357 := Aside0.mk (blk_drew BK357.out)
   replace HB := Aside0.mk (below_drew1 HB.out)
   refine start_ (n := 11) (S := fun w' => w'.cell? ⟨gb356, 0, none⟩ = some (.slice A0_0 l0_0.length c0_0) ∧ w'.cell? ⟨gb356, 1, none⟩ = some (.slice A0_1 l0_1.length c0_1) ∧ w'.cell? ⟨gb357, 0, none⟩ = some (.slice A1_0 l1_0.length c1_0) ∧ w'.cell? ⟨gb357, 1, none⟩ = some (.slice A1_1 l1_1.length c1_1)) (ds := []) #[false, false, false, false, false, false, false, false, false, false, false] (by kernel_rfl) rfl rfl ⟨(blk_cell BK356.out 0).trans rfl, (blk_cell BK356.out 1).trans rfl, (blk_cell BK357.out 0).trans rfl, (blk_cell BK357.out 1).trans rfl⟩ (fun hHeld => ?_); refine with_tabW laws_FnExactDrop.tab8 laws_FnExactDrop.bits8 (fun HT_ HW_ => ?_)
   generalize w32.drew = w33 at BK356 BK357 HB hHeld ⊢
   refine take_ (i := 0) (N := some 28) (v := ?_) (a' := ?_) #[true, false, false, false, false, false, false, false, false, false, false] rfl rfl (take_ofW HT_.out HW_.out (by kernel_rfl)) (fun _ _ _ h => h) (Or.inl ⟨by rfl, ?_⟩) hHeld ?_ ?_
   rotate_left
   ·
    rintro w' ⟨s0, s1, s2, s3⟩
    go_simp
    with_reducible rfl
   rotate_left
   ·
    simp only [Act.put, List.setIfInBounds_toArray, List.set_cons_zero, List.set_cons_succ, i64_w, i32_w]
    rfl
   refine take_ (i := 2) (N := some 30) (v := ?_) (a' := ?_) #[true, false, true, false, false, false, false, false, false, false, false] rfl rfl (take_ofW HT_.out HW_.out (by kernel_rfl)) (fun _ _ _ h => h) (Or.inl ⟨by rfl, ?_⟩) hHeld ?_ ?_
   rotate_left
   ·
    rintro w' ⟨s0, s1, s2, s3⟩
    go_simp
    with_reducible rfl
   rotate_left
   ·
    simp only [Act.put, List.setIfInBounds_toArray, List.set_cons_zero, List.set_cons_succ, i64_w, i32_w]
    rfl
   refine join_ (σ := Value × Value × Value × Value × Value × Value × Nat) 2 #[true, true, true, true, true, true, true, true, true, false, false] (fun s_ => [(29, .agg #[s_.1, s_.2.1]), (31, .agg #[s_.2.2.1, s_.2.2.2.1]), (32, .tuple #[.agg #[s_.2.2.2.2.1, s_.2.2.2.2.2.1], .int .i64 t378]), (6, .pointer (some ⟨s_.2.2.2.2.2.2, 0, none⟩)), (27, .tuple #[.agg #[s_.2.2.2.2.1, s_.2.2.2.2.2.1], .int .i64 t378]), (33, .agg #[s_.2.2.2.2.1, s_.2.2.2.2.2.1]), (34, .int .i64 t378)]) (fun s_ w' => (w'.cell? ⟨gb356, 0, none⟩ = some (.slice A0_0 l0_0.length c0_0) ∧ w'.cell? ⟨gb356, 1, none⟩ = some (.slice A0_1 l0_1.length c0_1) ∧ w'.cell? ⟨gb357, 0, none⟩ = some (.slice A1_0 l1_0.length c1_0) ∧ w'.cell? ⟨gb357, 1, none⟩ = some (.slice A1_1 l1_1.length c1_1)) ∧ (Kd.R (Kd.int .i64) 3 w' w.heap.size (fun k_ => some k_ ≠ (s_.2.1 : Value).ownBlock ∧ some k_ ≠ (s_.2.2.1 : Value).ownBlock ∧ some k_ ≠ (s_.2.2.2.1 : Value).ownBlock ∧ some k_ ≠ (s_.2.2.2.2.1 : Value).ownBlock ∧ some k_ ≠ (s_.2.2.2.2.2.1 : Value).ownBlock) s_.1 t360) ∧ (Kd.R (Kd.int .i64) 3 w' w.heap.size (fun k_ => some k_ ≠ (s_.1 : Value).ownBlock ∧ some k_ ≠ (s_.2.2.1 : Value).ownBlock ∧ some k_ ≠ (s_.2.2.2.1 : Value).ownBlock ∧ some k_ ≠ (s_.2.2.2.2.1 : Value).ownBlock ∧ some k_ ≠ (s_.2.2.2.2.2.1 : Value).ownBlock) s_.2.1 t363) ∧ (Kd.R (Kd.int .i64) 3 w' w.heap.size (fun k_ => some k_ ≠ (s_.1 : Value).ownBlock ∧ some k_ ≠ (s_.2.1 : Value).ownBlock ∧ some k_ ≠ (s_.2.2.2.1 : Value).ownBlock ∧ some k_ ≠ (s_.2.2.2.2.1 : Value).ownBlock ∧ some k_ ≠ (s_.2.2.2.2.2.1 : Value).ownBlock) s_.2.2.1 t366) ∧ (Kd.R (Kd.int .i64) 3 w' w.heap.size (fun k_ => some k_ ≠ (s_.1 : Value).ownBlock ∧ some k_ ≠ (s_.2.1 : Value).ownBlock ∧ some k_ ≠ (s_.2.2.1 : Value).ownBlock ∧ some k_ ≠ (s_.2.2.2.2.1 : Value).ownBlock ∧ some k_ ≠ (s_.2.2.2.2.2.1 : Value).ownBlock) s_.2.2.2.1 t369) ∧ (Kd.R (Kd.int .i64) 3 w' w.heap.size (fun k_ => some k_ ≠ (s_.1 : Value).ownBlock ∧ some k_ ≠ (s_.2.1 : Value).ownBlock ∧ some k_ ≠ (s_.2.2.1 : Value).ownBlock ∧ some k_ ≠ (s_.2.2.2.1 : Value).ownBlock ∧ some k_ ≠ (s_.2.2.2.2.2.1 : Value).ownBlock) s_.2.2.2.2.1 t372) ∧ (Kd.R (Kd.int .i64) 3 w' w.heap.size (fun k_ => some k_ ≠ (s_.1 : Value).ownBlock ∧ some k_ ≠ (s_.2.1 : Value).ownBlock ∧ some k_ ≠ (s_.2.2.1 : Value).ownBlock ∧ some k_ ≠ (s_.2.2.2.1 : Value).ownBlock ∧ some k_ ≠ (s_.2.2.2.2.1 : Value).ownBlock) s_.2.2.2.2.2.1 t375) ∧ (w'.heap[gb356]? = some (.cells #[.slice A0_0 l0_0.length c0_0, .slice A0_1 l0_1.length c0_1] 24 (0, 0))) ∧ (w'.heap[gb357]? = some (.cells #[.slice A1_0 l1_0.length c1_0, .slice A1_1 l1_1.length c1_1] 24 (0, 0))) ∧ (w'.heap[s_.2.2.2.2.2.2]? = some (.cells #[.slice none 0 0, .slice none 0 0] 26 (0, 0))) ∧ (w.heap.size ≤ s_.2.2.2.2.2.2) ∧ (w.heap.size ≤ s_.2.2.2.2.2.2) ∧ (gb356 ≠ s_.2.2.2.2.2.2) ∧ (s_.2.2.2.2.2.2 ≠ gb356) ∧ (gb357 ≠ s_.2.2.2.2.2.2) ∧ (s_.2.2.2.2.2.2 ≠ gb357) ∧ (Below w.heap.size w w')) ?_ ?_
   rotate_left
   ·
    intro hCont
    refine two_ (i := 1) (j := 8) (Ni := some 29) (Nj := some 6) #[true, true, true, false, false, false, false, false, false, false, false] #[true, false, true, false, false, false, false, false, true, false, false] rfl rfl rfl rfl (two_of HT_.out (by kernel_rfl)) (by decide) (by decide) (fun K hK => ?_) (fun K hK => ?_)
    ·
     skip
     refine goes_ Try.func10 (by kernel_rfl) rfl #[.agg #[.slice A0_0 l0_0.length c0_0, .slice A0_1 l0_1.length c0_1]] (by rfl) rfl rfl (by (try simp only [List.map_toArray, List.map_cons, List.map_nil]); first | done | rfl | (simp only [List.length_drop, List.length_take]; rfl)) ?_
     with_reducible refine (laws_toArray.calls k _ _ l0_0 _ _ l0_1 t360 t363 _ ?side1 ?side2 ?side3 ?side4 A19.out).mono ?_
     (case side1 => exact cU (Kd.C_below HR0_0.out HB.out))
     (case side2 => exact HC0_0.out)
     (case side3 => exact cU (Kd.C_below HR0_1.out HB.out))
     (case side4 => exact HC0_1.out)
     rintro e w34 ⟨v361, v364, rfl, ho0, ho1, hb⟩
     refine ⟨_, rfl, ?_⟩
     have HO362 := Aside0.mk (Kd.R_lower ho0 (below_size (bS2 HB.out GE356.out GE357.out)))
     have HO365 := Aside0.mk (Kd.R_lower ho1 (below_size (bS2 HB.out GE356.out GE357.out)))
     replace BK356 := Aside0.mk (blk_below (g := gb356) (o := .cells #[.slice A0_0 l0_0.length c0_0, .slice A0_1 l0_1.length c0_1] 24 (0, 0)) (kU BK356.out) hb)
     replace BK357 := Aside0.mk (blk_below (g := gb357) (o := .cells #[.slice A1_0 l1_0.length c1_0, .slice A1_1 l1_1.length c1_1] 24 (0, 0)) (kU BK357.out) hb)
     replace HB := Aside0.mk (below_step (bS2 HB.out GE356.out GE357.out) hb)
     (try clear hb)
     (try clear hb2)
     (try clear hk)
     (try clear hi)
     (try clear ho0)
     (try clear ho1)
     refine hK.out _ _ ⟨(blk_cell BK356.out 0).trans rfl, (blk_cell BK356.out 1).trans rfl, (blk_cell BK357.out 0).trans rfl, (blk_cell BK357.out 1).trans rfl⟩ (fun hHeld => ?_)
     clear hK K
     refine norm_ (a' := ?_) ?_ ?_
     rotate_left
     ·
      show Act.put _ (some 29) _ = _
      simp only [Act.put, List.setIfInBounds_toArray, List.set_cons_zero, List.set_cons_succ, i64_w, i32_w]
      rfl
     refine two_ (i := 3) (j := 8) (Ni := some 31) (Nj := some 6) #[true, true, true, true, false, false, false, false, false, false, false] #[true, true, true, false, false, false, false, false, true, false, false] rfl rfl rfl rfl (two_of HT_.out (by kernel_rfl)) (by decide) (by decide) (fun K hK => ?_) (fun K hK => ?_)
     ·
      skip
      refine goes_ Try.func10 (by kernel_rfl) rfl #[.agg #[.slice A1_0 l1_0.length c1_0, .slice A1_1 l1_1.length c1_1]] (by rfl) rfl rfl (by (try simp only [List.map_toArray, List.map_cons, List.map_nil]); first | done | rfl | (simp only [List.length_drop, List.length_take]; rfl)) ?_
      with_reducible refine (laws_toArray.calls k _ _ l1_0 _ _ l1_1 t366 t369 _ ?side1 ?side2 ?side3 ?side4 A20.out).mono ?_
      (case side1 => exact cU (Kd.C_below HR1_0.out HB.out))
      (case side2 => exact HC1_0.out)
      (case side3 => exact cU (Kd.C_below HR1_1.out HB.out))
      (case side4 => exact HC1_1.out)
      rintro e w35 ⟨v367, v370, rfl, ho0, ho1, hb⟩
      refine ⟨_, rfl, ?_⟩
      have HO368 := Aside0.mk (Kd.R_lower (Kd.R_new' (Kd.R_new' ho0 (Kd.R_lt (RU HO362.out))) (Kd.R_lt (RU HO365.out))) (below_size (bS2 HB.out GE356.out GE357.out)))
      have HO371 := Aside0.mk (Kd.R_lower (Kd.R_new' (Kd.R_new' ho1 (Kd.R_lt (RU HO362.out))) (Kd.R_lt (RU HO365.out))) (below_size (bS2 HB.out GE356.out GE357.out)))
      replace HO362 := Aside0.mk (Kd.R_mono (Kd.R_told (Kd.R_told (Kd.R_old (RU HO362.out) hb) (Kd.R_base ho0)) (Kd.R_base ho1)) (fun _ h_ => h_.1))
      replace HO365 := Aside0.mk (Kd.R_mono (Kd.R_told (Kd.R_told (Kd.R_old (RU HO365.out) hb) (Kd.R_base ho0)) (Kd.R_base ho1)) (fun _ h_ => h_.1))
      replace BK356 := Aside0.mk (blk_below (g := gb356) (o := .cells #[.slice A0_0 l0_0.length c0_0, .slice A0_1 l0_1.length c0_1] 24 (0, 0)) (kU BK356.out) hb)
      replace BK357 := Aside0.mk (blk_below (g := gb357) (o := .cells #[.slice A1_0 l1_0.length c1_0, .slice A1_1 l1_1.length c1_1] 24 (0, 0)) (kU BK357.out) hb)
      replace HB := Aside0.mk (below_step (bS2 HB.out GE356.out GE357.out) hb)
      (try clear hb)
      (try clear hb2)
      (try clear hk)
      (try clear hi)
      (try clear ho0)
      (try clear ho1)
      obtain ⟨Ao36, co36, eo36⟩ := Kd.R_slice HO362.out
      (first | subst eo36 | (injection eo36 with f1_ f2_ f3_; have f4_ := f1_.symm; have f5_ := f3_.symm; clear f1_ f2_ f3_; subst f4_; subst f5_))
      obtain ⟨Ao37, co37, eo37⟩ := Kd.R_slice HO365.out
      (first | subst eo37 | (injection eo37 with f1_ f2_ f3_; have f4_ := f1_.symm; have f5_ := f3_.symm; clear f1_ f2_ f3_; subst f4_; subst f5_))
      obtain ⟨Ao38, co38, eo38⟩ := Kd.R_slice HO368.out
      (first | subst eo38 | (injection eo38 with f1_ f2_ f3_; have f4_ := f1_.symm; have f5_ := f3_.symm; clear f1_ f2_ f3_; subst f4_; subst f5_))
      obtain ⟨Ao39, co39, eo39⟩ := Kd.R_slice HO371.out
      (first | subst eo39 | (injection eo39 with f1_ f2_ f3_; have f4_ := f1_.symm; have f5_ := f3_.symm; clear f1_ f2_ f3_; subst f4_; subst f5_))
      refine hK.out _ _ ⟨(blk_cell BK356.out 0).trans rfl, (blk_cell BK356.out 1).trans rfl, (blk_cell BK357.out 0).trans rfl, (blk_cell BK357.out 1).trans rfl⟩ (fun hHeld => ?_)
      clear hK K
      refine norm_ (a' := ?_) ?_ ?_
      rotate_left
      ·
       show Act.put _ (some 31) _ = _
       simp only [Act.put, List.setIfInBounds_toArray, List.set_cons_zero, List.set_cons_succ, i64_w, i32_w]
       rfl
      refine two_ (i := 4) (j := 8) (Ni := some 32) (Nj := some 6) #[true, true, true, true, true, false, false, false, false, false, false] #[true, true, true, true, false, false, false, false, true, false, false] rfl rfl rfl rfl (two_of HT_.out (by kernel_rfl)) (by decide) (by decide) (fun K hK => ?_) (fun K hK => ?_)
      ·
       skip
       refine goes_ Try.func9 (by kernel_rfl) rfl #[.agg #[.slice Ao36 t360.length co36, .slice Ao37 t363.length co37], .agg #[.slice Ao38 t366.length co38, .slice Ao39 t369.length co39]] (by rfl) rfl rfl (by (try simp only [List.map_toArray, List.map_cons, List.map_nil]); first | done | rfl | (simp only [List.length_drop, List.length_take]; rfl)) ?_
       with_reducible refine (spec_Drop.calls k _ _ t360 _ _ t363 _ _ t366 _ _ t369 t372 t375 t378 _ ?side1 ?side2 ?side3 ?side4 ?side5 ?side6 ?side7 ?side8 A21.out).mono ?_
       (case side1 => exact cU (Kd.R_reads' HO362.out).2.2)
       (case side2 => exact (Kd.R_reads' HO362.out).2.1)
       (case side3 => exact cU (Kd.R_reads' HO365.out).2.2)
       (case side4 => exact (Kd.R_reads' HO365.out).2.1)
       (case side5 => exact cU (Kd.R_reads' HO368.out).2.2)
       (case side6 => exact (Kd.R_reads' HO368.out).2.1)
       (case side7 => exact cU (Kd.R_reads' HO371.out).2.2)
       (case side8 => exact (Kd.R_reads' HO371.out).2.1)
       rintro e w40 ⟨v373, v376, rfl, ho0, ho1, hb⟩
       refine ⟨_, rfl, ?_⟩
       have HO374 := Aside0.mk (Kd.R_lower (Kd.R_new' (Kd.R_new' (Kd.R_new' (Kd.R_new' ho0 (Kd.R_lt (RU HO362.out))) (Kd.R_lt (RU HO365.out))) (Kd.R_lt (RU HO368.out))) (Kd.R_lt (RU HO371.out))) (below_size (bS2 HB.out GE356.out GE357.out)))
       have HO377 := Aside0.mk (Kd.R_lower (Kd.R_new' (Kd.R_new' (Kd.R_new' (Kd.R_new' ho1 (Kd.R_lt (RU HO362.out))) (Kd.R_lt (RU HO365.out))) (Kd.R_lt (RU HO368.out))) (Kd.R_lt (RU HO371.out))) (below_size (bS2 HB.out GE356.out GE357.out)))
       replace HO362 := Aside0.mk (Kd.R_mono (Kd.R_told (Kd.R_told (Kd.R_old (RU HO362.out) hb) (Kd.R_base ho0)) (Kd.R_base ho1)) (fun _ h_ => h_.1))
       replace HO365 := Aside0.mk (Kd.R_mono (Kd.R_told (Kd.R_told (Kd.R_old (RU HO365.out) hb) (Kd.R_base ho0)) (Kd.R_base ho1)) (fun _ h_ => h_.1))
       replace HO368 := Aside0.mk (Kd.R_mono (Kd.R_told (Kd.R_told (Kd.R_old (RU HO368.out) hb) (Kd.R_base ho0)) (Kd.R_base ho1)) (fun _ h_ => h_.1))
       replace HO371 := Aside0.mk (Kd.R_mono (Kd.R_told (Kd.R_told (Kd.R_old (RU HO371.out) hb) (Kd.R_base ho0)) (Kd.R_base ho1)) (fun _ h_ => h_.1))
       replace BK356 := Aside0.mk (blk_below (g := gb356) (o := .cells #[.slice A0_0 l0_0.length c0_0, .slice A0_1 l0_1.length c0_1] 24 (0, 0)) (kU BK356.out) hb)
       replace BK357 := Aside0.mk (blk_below (g := gb357) (o := .cells #[.slice A1_0 l1_0.length c1_0, .slice A1_1 l1_1.length c1_1] 24 (0, 0)) (kU BK357.out) hb)
       replace HB := Aside0.mk (below_step (bS2 HB.out GE356.out GE357.out) hb)
       (try clear hb)
       (try clear hb2)
       (try clear hk)
       (try clear hi)
       (try clear ho0)
       (try clear ho1)
       refine hK.out _ _ ⟨(blk_cell BK356.out 0).trans rfl, (blk_cell BK356.out 1).trans rfl, (blk_cell BK357.out 0).trans rfl, (blk_cell BK357.out 1).trans rfl⟩ (fun hHeld => ?_)
       clear hK K
       refine norm_ (a' := ?_) ?_ ?_
       rotate_left
       ·
        show Act.put _ (some 32) _ = _
        simp only [Act.put, List.setIfInBounds_toArray, List.set_cons_zero, List.set_cons_succ, i64_w, i32_w]
        rfl
       refine pure_ (i := 5) (N := some 27) (v := ?_) (a' := ?_) #[true, true, true, true, true, true, false, false, false, false, false] rfl rfl (any_of HT_.out (by kernel_rfl)) (fun _ _ _ h => h) (Or.inl ⟨by rfl, ?_⟩) ?_ ?_
       rotate_left
       ·
        intro w'
        go_simp
        with_reducible rfl
       rotate_left
       ·
        simp only [Act.put, List.setIfInBounds_toArray, List.set_cons_zero, List.set_cons_succ, i64_w, i32_w]
        rfl
       refine pure_ (i := 6) (N := some 33) (v := ?_) (a' := ?_) #[true, true, true, true, true, true, true, false, false, false, false] rfl rfl (any_of HT_.out (by kernel_rfl)) (fun _ _ _ h => h) (Or.inl ⟨by rfl, ?_⟩) ?_ ?_
       rotate_left
       ·
        intro w'
        go_simp
        with_reducible rfl
       rotate_left
       ·
        simp only [Act.put, List.setIfInBounds_toArray, List.set_cons_zero, List.set_cons_succ, i64_w, i32_w]
        rfl
       refine pure_ (i := 7) (N := some 34) (v := ?_) (a' := ?_) #[true, true, true, true, true, true, true, true, false, false, false] rfl rfl (any_of HT_.out (by kernel_rfl)) (fun _ _ _ h => h) (Or.inl ⟨by rfl, ?_⟩) ?_ ?_
       rotate_left
       ·
        intro w'
        go_simp
        with_reducible rfl
       rotate_left
       ·
        simp only [Act.put, List.setIfInBounds_toArray, List.set_cons_zero, List.set_cons_succ, i64_w, i32_w]
        rfl
       refine one_ (i := 8) (N := some 6) #[true, true, true, true, true, true, true, true, true, false, false] rfl rfl (one_of HT_.out (by kernel_rfl)) (by decide) (fun K hK => ?_)
       refine box_step ?hg (N := 6) ?hd (cs := #[.slice none 0 0, .slice none 0 0]) (t := 26) ?hr ?_; (case hd => rfl); (case hg => rfl); (case hr => first | (go_simp; done) | (go_simp; rfl))
       intro gb379 hg w41 hbox hb
       replace HO362 := Aside0.mk (Kd.R_below (RU HO362.out) hb)
       replace HO365 := Aside0.mk (Kd.R_below (RU HO365.out) hb)
       replace HO368 := Aside0.mk (Kd.R_below (RU HO368.out) hb)
       replace HO371 := Aside0.mk (Kd.R_below (RU HO371.out) hb)
       replace HO374 := Aside0.mk (Kd.R_below (RU HO374.out) hb)
       replace HO377 := Aside0.mk (Kd.R_below (RU HO377.out) hb)
       have BK379 := Aside0.mk (hbox)
       have GW379 := Aside0.mk ((by rw [hg]; exact (below_size (bS2 HB.out GE356.out GE357.out)) : w.heap.size ≤ gb379))
       have GE379 := Aside0.mk ((by rw [hg]; exact (below_size (bS2 HB.out GE356.out GE357.out)) : w.heap.size ≤ gb379))
       replace HB := Aside0.mk (below_step (bS2 HB.out GE356.out GE357.out) hb)
       have NB356_379 := Aside0.mk ((by rw [hg]; exact Nat.ne_of_lt (blk_lt (g := gb356) (o := .cells #[.slice A0_0 l0_0.length c0_0, .slice A0_1 l0_1.length c0_1] 24 (0, 0)) (kU BK356.out)) : gb356 ≠ gb379))
       have NB379_356 := Aside0.mk ((by rw [hg]; exact Nat.ne_of_gt (blk_lt (g := gb356) (o := .cells #[.slice A0_0 l0_0.length c0_0, .slice A0_1 l0_1.length c0_1] 24 (0, 0)) (kU BK356.out)) : gb379 ≠ gb356))
       replace BK356 := Aside0.mk (blk_below (g := gb356) (o := .cells #[.slice A0_0 l0_0.length c0_0, .slice A0_1 l0_1.length c0_1] 24 (0, 0)) (kU BK356.out) hb)
       have NB357_379 := Aside0.mk ((by rw [hg]; exact Nat.ne_of_lt (blk_lt (g := gb357) (o := .cells #[.slice A1_0 l1_0.length c1_0, .slice A1_1 l1_1.length c1_1] 24 (0, 0)) (kU BK357.out)) : gb357 ≠ gb379))
       have NB379_357 := Aside0.mk ((by rw [hg]; exact Nat.ne_of_gt (blk_lt (g := gb357) (o := .cells #[.slice A1_0 l1_0.length c1_0, .slice A1_1 l1_1.length c1_1] 24 (0, 0)) (kU BK357.out)) : gb379 ≠ gb357))
       replace BK357 := Aside0.mk (blk_below (g := gb357) (o := .cells #[.slice A1_0 l1_0.length c1_0, .slice A1_1 l1_1.length c1_1] 24 (0, 0)) (kU BK357.out) hb)
       clear hb hbox hg
       refine hK.out _ _ ⟨(blk_cell BK356.out 0).trans rfl, (blk_cell BK356.out 1).trans rfl, (blk_cell BK357.out 0).trans rfl, (blk_cell BK357.out 1).trans rfl⟩ (fun hHeld => ?_)
       clear hK K
       refine norm_ (a' := ?_) ?_ ?_
       rotate_left
       ·
        show Act.put _ (some 6) _ = _
        simp only [Act.put, List.setIfInBounds_toArray, List.set_cons_zero, List.set_cons_succ, i64_w, i32_w]
        rfl
       exact norm_ (by simp only [putAll, Act.put, List.setIfInBounds_toArray, List.set_cons_zero, List.set_cons_succ]) (hCont (.slice Ao36 t360.length co36, .slice Ao37 t363.length co37, .slice Ao38 t366.length co38, .slice Ao39 t369.length co39, v373, v376, gb379) _ ⟨hHeld, (by (with_reducible repeat (first | apply Kd.R_alloc | apply Kd.R_drewN | apply Kd.R_drew)); exact Kd.R_mono HO362.out (fun _ hk => ⟨hk.1.1.1.1, ⟨hk.1.1.1.2, ⟨hk.1.1.2, ⟨hk.1.2, hk.2⟩⟩⟩⟩)), (by (with_reducible repeat (first | apply Kd.R_alloc | apply Kd.R_drewN | apply Kd.R_drew)); exact Kd.R_mono HO365.out (fun _ hk => ⟨hk.1.1.1.1, ⟨hk.1.1.1.2, ⟨hk.1.1.2, ⟨hk.1.2, hk.2⟩⟩⟩⟩)), (by (with_reducible repeat (first | apply Kd.R_alloc | apply Kd.R_drewN | apply Kd.R_drew)); exact Kd.R_mono HO368.out (fun _ hk => ⟨hk.1.1.1.2, ⟨hk.1.1.2, ⟨hk.1.1.1.1, ⟨hk.1.2, hk.2⟩⟩⟩⟩)), (by (with_reducible repeat (first | apply Kd.R_alloc | apply Kd.R_drewN | apply Kd.R_drew)); exact Kd.R_mono HO371.out (fun _ hk => ⟨hk.1.1.1.2, ⟨hk.1.1.2, ⟨hk.1.1.1.1, ⟨hk.1.2, hk.2⟩⟩⟩⟩)), (by (with_reducible repeat (first | apply Kd.R_alloc | apply Kd.R_drewN | apply Kd.R_drew)); exact Kd.R_mono HO374.out (fun _ hk => ⟨hk.1.1.1.2, ⟨hk.1.1.2, ⟨hk.1.2, ⟨hk.2, hk.1.1.1.1⟩⟩⟩⟩)), (by (with_reducible repeat (first | apply Kd.R_alloc | apply Kd.R_drewN | apply Kd.R_drew)); exact Kd.R_mono HO377.out (fun _ hk => ⟨hk.1.1.1.2, ⟨hk.1.1.2, ⟨hk.1.2, ⟨hk.2, hk.1.1.1.1⟩⟩⟩⟩)), (kU BK356.out), (kU BK357.out), (kU BK379.out), GW379.out, GE379.out, NB356_379.out, NB379_356.out, NB357_379.out, NB379_357.out, (bS3 HB.out GE356.out GE357.out GE379.out)⟩)
      ·
       skip
       refine box_step ?hg (N := 6) ?hd (cs := #[.slice none 0 0, .slice none 0 0]) (t := 26) ?hr ?_; (case hd => rfl); (case hg => rfl); (case hr => first | (go_simp; done) | (go_simp; rfl))
       intro gb379 hg w36 hbox hb
       replace HO362 := Aside0.mk (Kd.R_below (RU HO362.out) hb)
       replace HO365 := Aside0.mk (Kd.R_below (RU HO365.out) hb)
       replace HO368 := Aside0.mk (Kd.R_below (RU HO368.out) hb)
       replace HO371 := Aside0.mk (Kd.R_below (RU HO371.out) hb)
       have BK379 := Aside0.mk (hbox)
       have GW379 := Aside0.mk ((by rw [hg]; exact (below_size (bS2 HB.out GE356.out GE357.out)) : w.heap.size ≤ gb379))
       have GE379 := Aside0.mk ((by rw [hg]; exact (below_size (bS2 HB.out GE356.out GE357.out)) : w.heap.size ≤ gb379))
       replace HB := Aside0.mk (below_step (bS2 HB.out GE356.out GE357.out) hb)
       have NB356_379 := Aside0.mk ((by rw [hg]; exact Nat.ne_of_lt (blk_lt (g := gb356) (o := .cells #[.slice A0_0 l0_0.length c0_0, .slice A0_1 l0_1.length c0_1] 24 (0, 0)) (kU BK356.out)) : gb356 ≠ gb379))
       have NB379_356 := Aside0.mk ((by rw [hg]; exact Nat.ne_of_gt (blk_lt (g := gb356) (o := .cells #[.slice A0_0 l0_0.length c0_0, .slice A0_1 l0_1.length c0_1] 24 (0, 0)) (kU BK356.out)) : gb379 ≠ gb356))
       replace BK356 := Aside0.mk (blk_below (g := gb356) (o := .cells #[.slice A0_0 l0_0.length c0_0, .slice A0_1 l0_1.length c0_1] 24 (0, 0)) (kU BK356.out) hb)
       have NB357_379 := Aside0.mk ((by rw [hg]; exact Nat.ne_of_lt (blk_lt (g := gb357) (o := .cells #[.slice A1_0 l1_0.length c1_0, .slice A1_1 l1_1.length c1_1] 24 (0, 0)) (kU BK357.out)) : gb357 ≠ gb379))
       have NB379_357 := Aside0.mk ((by rw [hg]; exact Nat.ne_of_gt (blk_lt (g := gb357) (o := .cells #[.slice A1_0 l1_0.length c1_0, .slice A1_1 l1_1.length c1_1] 24 (0, 0)) (kU BK357.out)) : gb379 ≠ gb357))
       replace BK357 := Aside0.mk (blk_below (g := gb357) (o := .cells #[.slice A1_0 l1_0.length c1_0, .slice A1_1 l1_1.length c1_1] 24 (0, 0)) (kU BK357.out) hb)
       clear hb hbox hg
       obtain ⟨Ao37, co37, eo37⟩ := Kd.R_slice HO362.out
       (first | subst eo37 | (injection eo37 with f1_ f2_ f3_; have f4_ := f1_.symm; have f5_ := f3_.symm; clear f1_ f2_ f3_; subst f4_; subst f5_))
       obtain ⟨Ao38, co38, eo38⟩ := Kd.R_slice HO365.out
       (first | subst eo38 | (injection eo38 with f1_ f2_ f3_; have f4_ := f1_.symm; have f5_ := f3_.symm; clear f1_ f2_ f3_; subst f4_; subst f5_))
       obtain ⟨Ao39, co39, eo39⟩ := Kd.R_slice HO368.out
       (first | subst eo39 | (injection eo39 with f1_ f2_ f3_; have f4_ := f1_.symm; have f5_ := f3_.symm; clear f1_ f2_ f3_; subst f4_; subst f5_))
       obtain ⟨Ao40, co40, eo40⟩ := Kd.R_slice HO371.out
       (first | subst eo40 | (injection eo40 with f1_ f2_ f3_; have f4_ := f1_.symm; have f5_ := f3_.symm; clear f1_ f2_ f3_; subst f4_; subst f5_))
       refine hK.out _ _ ⟨(blk_cell BK356.out 0).trans rfl, (blk_cell BK356.out 1).trans rfl, (blk_cell BK357.out 0).trans rfl, (blk_cell BK357.out 1).trans rfl⟩ (fun hHeld => ?_)
       clear hK K
       refine norm_ (a' := ?_) ?_ ?_
       rotate_left
       ·
        show Act.put _ (some 6) _ = _
        simp only [Act.put, List.setIfInBounds_toArray, List.set_cons_zero, List.set_cons_succ, i64_w, i32_w]
        rfl
       refine one_ (i := 4) (N := some 32) #[true, true, true, true, true, false, false, false, true, false, false] rfl rfl (one_of HT_.out (by kernel_rfl)) (by decide) (fun K hK => ?_)
       refine goes_ Try.func9 (by kernel_rfl) rfl #[.agg #[.slice Ao37 t360.length co37, .slice Ao38 t363.length co38], .agg #[.slice Ao39 t366.length co39, .slice Ao40 t369.length co40]] (by rfl) rfl rfl (by (try simp only [List.map_toArray, List.map_cons, List.map_nil]); first | done | rfl | (simp only [List.length_drop, List.length_take]; rfl)) ?_
       with_reducible refine (spec_Drop.calls k _ _ t360 _ _ t363 _ _ t366 _ _ t369 t372 t375 t378 _ ?side1 ?side2 ?side3 ?side4 ?side5 ?side6 ?side7 ?side8 A21.out).mono ?_
       (case side1 => exact cU (Kd.R_reads' HO362.out).2.2)
       (case side2 => exact (Kd.R_reads' HO362.out).2.1)
       (case side3 => exact cU (Kd.R_reads' HO365.out).2.2)
       (case side4 => exact (Kd.R_reads' HO365.out).2.1)
       (case side5 => exact cU (Kd.R_reads' HO368.out).2.2)
       (case side6 => exact (Kd.R_reads' HO368.out).2.1)
       (case side7 => exact cU (Kd.R_reads' HO371.out).2.2)
       (case side8 => exact (Kd.R_reads' HO371.out).2.1)
       rintro e w41 ⟨v373, v376, rfl, ho0, ho1, hb⟩
       refine ⟨_, rfl, ?_⟩
       have HO374 := Aside0.mk (Kd.R_lower (Kd.R_new' (Kd.R_new' (Kd.R_new' (Kd.R_new' ho0 (Kd.R_lt (RU HO362.out))) (Kd.R_lt (RU HO365.out))) (Kd.R_lt (RU HO368.out))) (Kd.R_lt (RU HO371.out))) (below_size (bS3 HB.out GE356.out GE357.out GE379.out)))
       have HO377 := Aside0.mk (Kd.R_lower (Kd.R_new' (Kd.R_new' (Kd.R_new' (Kd.R_new' ho1 (Kd.R_lt (RU HO362.out))) (Kd.R_lt (RU HO365.out))) (Kd.R_lt (RU HO368.out))) (Kd.R_lt (RU HO371.out))) (below_size (bS3 HB.out GE356.out GE357.out GE379.out)))
       replace HO362 := Aside0.mk (Kd.R_mono (Kd.R_told (Kd.R_told (Kd.R_old (RU HO362.out) hb) (Kd.R_base ho0)) (Kd.R_base ho1)) (fun _ h_ => h_.1))
       replace HO365 := Aside0.mk (Kd.R_mono (Kd.R_told (Kd.R_told (Kd.R_old (RU HO365.out) hb) (Kd.R_base ho0)) (Kd.R_base ho1)) (fun _ h_ => h_.1))
       replace HO368 := Aside0.mk (Kd.R_mono (Kd.R_told (Kd.R_told (Kd.R_old (RU HO368.out) hb) (Kd.R_base ho0)) (Kd.R_base ho1)) (fun _ h_ => h_.1))
       replace HO371 := Aside0.mk (Kd.R_mono (Kd.R_told (Kd.R_told (Kd.R_old (RU HO371.out) hb) (Kd.R_base ho0)) (Kd.R_base ho1)) (fun _ h_ => h_.1))
       replace BK356 := Aside0.mk (blk_below (g := gb356) (o := .cells #[.slice A0_0 l0_0.length c0_0, .slice A0_1 l0_1.length c0_1] 24 (0, 0)) (kU BK356.out) hb)
       replace BK357 := Aside0.mk (blk_below (g := gb357) (o := .cells #[.slice A1_0 l1_0.length c1_0, .slice A1_1 l1_1.length c1_1] 24 (0, 0)) (kU BK357.out) hb)
       replace BK379 := Aside0.mk (blk_below (g := gb379) (o := .cells #[.slice none 0 0, .slice none 0 0] 26 (0, 0)) (kU BK379.out) hb)
       replace HB := Aside0.mk (below_step (bS3 HB.out GE356.out GE357.out GE379.out) hb)
       (try clear hb)
       (try clear hb2)
       (try clear hk)
       (try clear hi)
       (try clear ho0)
       (try clear ho1)
       refine hK.out _ _ ⟨(blk_cell BK356.out 0).trans rfl, (blk_cell BK356.out 1).trans rfl, (blk_cell BK357.out 0).trans rfl, (blk_cell BK357.out 1).trans rfl⟩ (fun hHeld => ?_)
       clear hK K
       refine norm_ (a' := ?_) ?_ ?_
       rotate_left
       ·
        show Act.put _ (some 32) _ = _
        simp only [Act.put, List.setIfInBounds_toArray, List.set_cons_zero, List.set_cons_succ, i64_w, i32_w]
        rfl
       refine pure_ (i := 5) (N := some 27) (v := ?_) (a' := ?_) #[true, true, true, true, true, true, false, false, true, false, false] rfl rfl (any_of HT_.out (by kernel_rfl)) (fun _ _ _ h => h) (Or.inl ⟨by rfl, ?_⟩) ?_ ?_
       rotate_left
       ·
        intro w'
        go_simp
        with_reducible rfl
       rotate_left
       ·
        simp only [Act.put, List.setIfInBounds_toArray, List.set_cons_zero, List.set_cons_succ, i64_w, i32_w]
        rfl
       refine pure_ (i := 6) (N := some 33) (v := ?_) (a' := ?_) #[true, true, true, true, true, true, true, false, true, false, false] rfl rfl (any_of HT_.out (by kernel_rfl)) (fun _ _ _ h => h) (Or.inl ⟨by rfl, ?_⟩) ?_ ?_
       rotate_left
       ·
        intro w'
        go_simp
        with_reducible rfl
       rotate_left
       ·
        simp only [Act.put, List.setIfInBounds_toArray, List.set_cons_zero, List.set_cons_succ, i64_w, i32_w]
        rfl
       refine pure_ (i := 7) (N := some 34) (v := ?_) (a' := ?_) #[true, true, true, true, true, true, true, true, true, false, false] rfl rfl (any_of HT_.out (by kernel_rfl)) (fun _ _ _ h => h) (Or.inl ⟨by rfl, ?_⟩) ?_ ?_
       rotate_left
       ·
        intro w'
        go_simp
        with_reducible rfl
       rotate_left
       ·
        simp only [Act.put, List.setIfInBounds_toArray, List.set_cons_zero, List.set_cons_succ, i64_w, i32_w]
        rfl
       exact norm_ (by simp only [putAll, Act.put, List.setIfInBounds_toArray, List.set_cons_zero, List.set_cons_succ]) (hCont (.slice Ao37 t360.length co37, .slice Ao38 t363.length co38, .slice Ao39 t366.length co39, .slice Ao40 t369.length co40, v373, v376, gb379) _ ⟨hHeld, (by (with_reducible repeat (first | apply Kd.R_alloc | apply Kd.R_drewN | apply Kd.R_drew)); exact Kd.R_mono HO362.out (fun _ hk => ⟨hk.1.1.1.1, ⟨hk.1.1.1.2, ⟨hk.1.1.2, ⟨hk.1.2, hk.2⟩⟩⟩⟩)), (by (with_reducible repeat (first | apply Kd.R_alloc | apply Kd.R_drewN | apply Kd.R_drew)); exact Kd.R_mono HO365.out (fun _ hk => ⟨hk.1.1.1.1, ⟨hk.1.1.1.2, ⟨hk.1.1.2, ⟨hk.1.2, hk.2⟩⟩⟩⟩)), (by (with_reducible repeat (first | apply Kd.R_alloc | apply Kd.R_drewN | apply Kd.R_drew)); exact Kd.R_mono HO368.out (fun _ hk => ⟨hk.1.1.1.2, ⟨hk.1.1.2, ⟨hk.1.1.1.1, ⟨hk.1.2, hk.2⟩⟩⟩⟩)), (by (with_reducible repeat (first | apply Kd.R_alloc | apply Kd.R_drewN | apply Kd.R_drew)); exact Kd.R_mono HO371.out (fun _ hk => ⟨hk.1.1.1.2, ⟨hk.1.1.2, ⟨hk.1.1.1.1, ⟨hk.1.2, hk.2⟩⟩⟩⟩)), (by (with_reducible repeat (first | apply Kd.R_alloc | apply Kd.R_drewN | apply Kd.R_drew)); exact Kd.R_mono HO374.out (fun _ hk => ⟨hk.1.1.1.2, ⟨hk.1.1.2, ⟨hk.1.2, ⟨hk.2, hk.1.1.1.1⟩⟩⟩⟩)), (by (with_reducible repeat (first | apply Kd.R_alloc | apply Kd.R_drewN | apply Kd.R_drew)); exact Kd.R_mono HO377.out (fun _ hk => ⟨hk.1.1.1.2, ⟨hk.1.1.2, ⟨hk.1.2, ⟨hk.2, hk.1.1.1.1⟩⟩⟩⟩)), (kU BK356.out), (kU BK357.out), (kU BK379.out), GW379.out, GE379.out, NB356_379.out, NB379_356.out, NB357_379.out, NB379_357.out, (bS3 HB.out GE356.out GE357.out GE379.out)⟩)
     ·
      skip
      refine box_step ?hg (N := 6) ?hd (cs := #[.slice none 0 0, .slice none 0 0]) (t := 26) ?hr ?_; (case hd => rfl); (case hg => rfl); (case hr => first | (go_simp; done) | (go_simp; rfl))
      intro gb379 hg w35 hbox hb
      replace HO362 := Aside0.mk (Kd.R_below (RU HO362.out) hb)
      replace HO365 := Aside0.mk (Kd.R_below (RU HO365.out) hb)
      have BK379 := Aside0.mk (hbox)
      have GW379 := Aside0.mk ((by rw [hg]; exact (below_size (bS2 HB.out GE356.out GE357.out)) : w.heap.size ≤ gb379))
      have GE379 := Aside0.mk ((by rw [hg]; exact (below_size (bS2 HB.out GE356.out GE357.out)) : w.heap.size ≤ gb379))
      replace HB := Aside0.mk (below_step (bS2 HB.out GE356.out GE357.out) hb)
      have NB356_379 := Aside0.mk ((by rw [hg]; exact Nat.ne_of_lt (blk_lt (g := gb356) (o := .cells #[.slice A0_0 l0_0.length c0_0, .slice A0_1 l0_1.length c0_1] 24 (0, 0)) (kU BK356.out)) : gb356 ≠ gb379))
      have NB379_356 := Aside0.mk ((by rw [hg]; exact Nat.ne_of_gt (blk_lt (g := gb356) (o := .cells #[.slice A0_0 l0_0.length c0_0, .slice A0_1 l0_1.length c0_1] 24 (0, 0)) (kU BK356.out)) : gb379 ≠ gb356))
      replace BK356 := Aside0.mk (blk_below (g := gb356) (o := .cells #[.slice A0_0 l0_0.length c0_0, .slice A0_1 l0_1.length c0_1] 24 (0, 0)) (kU BK356.out) hb)
      have NB357_379 := Aside0.mk ((by rw [hg]; exact Nat.ne_of_lt (blk_lt (g := gb357) (o := .cells #[.slice A1_0 l1_0.length c1_0, .slice A1_1 l1_1.length c1_1] 24 (0, 0)) (kU BK357.out)) : gb357 ≠ gb379))
      have NB379_357 := Aside0.mk ((by rw [hg]; exact Nat.ne_of_gt (blk_lt (g := gb357) (o := .cells #[.slice A1_0 l1_0.length c1_0, .slice A1_1 l1_1.length c1_1] 24 (0, 0)) (kU BK357.out)) : gb379 ≠ gb357))
      replace BK357 := Aside0.mk (blk_below (g := gb357) (o := .cells #[.slice A1_0 l1_0.length c1_0, .slice A1_1 l1_1.length c1_1] 24 (0, 0)) (kU BK357.out) hb)
      clear hb hbox hg
      refine hK.out _ _ ⟨(blk_cell BK356.out 0).trans rfl, (blk_cell BK356.out 1).trans rfl, (blk_cell BK357.out 0).trans rfl, (blk_cell BK357.out 1).trans rfl⟩ (fun hHeld => ?_)
      clear hK K
      refine norm_ (a' := ?_) ?_ ?_
      rotate_left
      ·
       show Act.put _ (some 6) _ = _
       simp only [Act.put, List.setIfInBounds_toArray, List.set_cons_zero, List.set_cons_succ, i64_w, i32_w]
       rfl
      refine one_ (i := 3) (N := some 31) #[true, true, true, true, false, false, false, false, true, false, false] rfl rfl (one_of HT_.out (by kernel_rfl)) (by decide) (fun K hK => ?_)
      refine goes_ Try.func10 (by kernel_rfl) rfl #[.agg #[.slice A1_0 l1_0.length c1_0, .slice A1_1 l1_1.length c1_1]] (by rfl) rfl rfl (by (try simp only [List.map_toArray, List.map_cons, List.map_nil]); first | done | rfl | (simp only [List.length_drop, List.length_take]; rfl)) ?_
      with_reducible refine (laws_toArray.calls k _ _ l1_0 _ _ l1_1 t366 t369 _ ?side1 ?side2 ?side3 ?side4 A20.out).mono ?_
      (case side1 => exact cU (Kd.C_below HR1_0.out HB.out))
      (case side2 => exact HC1_0.out)
      (case side3 => exact cU (Kd.C_below HR1_1.out HB.out))
      (case side4 => exact HC1_1.out)
      rintro e w36 ⟨v367, v370, rfl, ho0, ho1, hb⟩
      refine ⟨_, rfl, ?_⟩
      have HO368 := Aside0.mk (Kd.R_lower (Kd.R_new' (Kd.R_new' ho0 (Kd.R_lt (RU HO362.out))) (Kd.R_lt (RU HO365.out))) (below_size (bS3 HB.out GE356.out GE357.out GE379.out)))
      have HO371 := Aside0.mk (Kd.R_lower (Kd.R_new' (Kd.R_new' ho1 (Kd.R_lt (RU HO362.out))) (Kd.R_lt (RU HO365.out))) (below_size (bS3 HB.out GE356.out GE357.out GE379.out)))
      replace HO362 := Aside0.mk (Kd.R_mono (Kd.R_told (Kd.R_told (Kd.R_old (RU HO362.out) hb) (Kd.R_base ho0)) (Kd.R_base ho1)) (fun _ h_ => h_.1))
      replace HO365 := Aside0.mk (Kd.R_mono (Kd.R_told (Kd.R_told (Kd.R_old (RU HO365.out) hb) (Kd.R_base ho0)) (Kd.R_base ho1)) (fun _ h_ => h_.1))
      replace BK356 := Aside0.mk (blk_below (g := gb356) (o := .cells #[.slice A0_0 l0_0.length c0_0, .slice A0_1 l0_1.length c0_1] 24 (0, 0)) (kU BK356.out) hb)
      replace BK357 := Aside0.mk (blk_below (g := gb357) (o := .cells #[.slice A1_0 l1_0.length c1_0, .slice A1_1 l1_1.length c1_1] 24 (0, 0)) (kU BK357.out) hb)
      replace BK379 := Aside0.mk (blk_below (g := gb379) (o := .cells #[.slice none 0 0, .slice none 0 0] 26 (0, 0)) (kU BK379.out) hb)
      replace HB := Aside0.mk (below_step (bS3 HB.out GE356.out GE357.out GE379.out) hb)
      (try clear hb)
      (try clear hb2)
      (try clear hk)
      (try clear hi)
      (try clear ho0)
      (try clear ho1)
      obtain ⟨Ao37, co37, eo37⟩ := Kd.R_slice HO362.out
      (first | subst eo37 | (injection eo37 with f1_ f2_ f3_; have f4_ := f1_.symm; have f5_ := f3_.symm; clear f1_ f2_ f3_; subst f4_; subst f5_))
      obtain ⟨Ao38, co38, eo38⟩ := Kd.R_slice HO365.out
      (first | subst eo38 | (injection eo38 with f1_ f2_ f3_; have f4_ := f1_.symm; have f5_ := f3_.symm; clear f1_ f2_ f3_; subst f4_; subst f5_))
      obtain ⟨Ao39, co39, eo39⟩ := Kd.R_slice HO368.out
      (first | subst eo39 | (injection eo39 with f1_ f2_ f3_; have f4_ := f1_.symm; have f5_ := f3_.symm; clear f1_ f2_ f3_; subst f4_; subst f5_))
      obtain ⟨Ao40, co40, eo40⟩ := Kd.R_slice HO371.out
      (first | subst eo40 | (injection eo40 with f1_ f2_ f3_; have f4_ := f1_.symm; have f5_ := f3_.symm; clear f1_ f2_ f3_; subst f4_; subst f5_))
      refine hK.out _ _ ⟨(blk_cell BK356.out 0).trans rfl, (blk_cell BK356.out 1).trans rfl, (blk_cell BK357.out 0).trans rfl, (blk_cell BK357.out 1).trans rfl⟩ (fun hHeld => ?_)
      clear hK K
      refine norm_ (a' := ?_) ?_ ?_
      rotate_left
      ·
       show Act.put _ (some 31) _ = _
       simp only [Act.put, List.setIfInBounds_toArray, List.set_cons_zero, List.set_cons_succ, i64_w, i32_w]
       rfl
      refine one_ (i := 4) (N := some 32) #[true, true, true, true, true, false, false, false, true, false, false] rfl rfl (one_of HT_.out (by kernel_rfl)) (by decide) (fun K hK => ?_)
      refine goes_ Try.func9 (by kernel_rfl) rfl #[.agg #[.slice Ao37 t360.length co37, .slice Ao38 t363.length co38], .agg #[.slice Ao39 t366.length co39, .slice Ao40 t369.length co40]] (by rfl) rfl rfl (by (try simp only [List.map_toArray, List.map_cons, List.map_nil]); first | done | rfl | (simp only [List.length_drop, List.length_take]; rfl)) ?_
      with_reducible refine (spec_Drop.calls k _ _ t360 _ _ t363 _ _ t366 _ _ t369 t372 t375 t378 _ ?side1 ?side2 ?side3 ?side4 ?side5 ?side6 ?side7 ?side8 A21.out).mono ?_
      (case side1 => exact cU (Kd.R_reads' HO362.out).2.2)
      (case side2 => exact (Kd.R_reads' HO362.out).2.1)
      (case side3 => exact cU (Kd.R_reads' HO365.out).2.2)
      (case side4 => exact (Kd.R_reads' HO365.out).2.1)
      (case side5 => exact cU (Kd.R_reads' HO368.out).2.2)
      (case side6 => exact (Kd.R_reads' HO368.out).2.1)
      (case side7 => exact cU (Kd.R_reads' HO371.out).2.2)
      (case side8 => exact (Kd.R_reads' HO371.out).2.1)
      rintro e w41 ⟨v373, v376, rfl, ho0, ho1, hb⟩
      refine ⟨_, rfl, ?_⟩
      have HO374 := Aside0.mk (Kd.R_lower (Kd.R_new' (Kd.R_new' (Kd.R_new' (Kd.R_new' ho0 (Kd.R_lt (RU HO362.out))) (Kd.R_lt (RU HO365.out))) (Kd.R_lt (RU HO368.out))) (Kd.R_lt (RU HO371.out))) (below_size (bS3 HB.out GE356.out GE357.out GE379.out)))
      have HO377 := Aside0.mk (Kd.R_lower (Kd.R_new' (Kd.R_new' (Kd.R_new' (Kd.R_new' ho1 (Kd.R_lt (RU HO362.out))) (Kd.R_lt (RU HO365.out))) (Kd.R_lt (RU HO368.out))) (Kd.R_lt (RU HO371.out))) (below_size (bS3 HB.out GE356.out GE357.out GE379.out)))
      replace HO362 := Aside0.mk (Kd.R_mono (Kd.R_told (Kd.R_told (Kd.R_old (RU HO362.out) hb) (Kd.R_base ho0)) (Kd.R_base ho1)) (fun _ h_ => h_.1))
      replace HO365 := Aside0.mk (Kd.R_mono (Kd.R_told (Kd.R_told (Kd.R_old (RU HO365.out) hb) (Kd.R_base ho0)) (Kd.R_base ho1)) (fun _ h_ => h_.1))
      replace HO368 := Aside0.mk (Kd.R_mono (Kd.R_told (Kd.R_told (Kd.R_old (RU HO368.out) hb) (Kd.R_base ho0)) (Kd.R_base ho1)) (fun _ h_ => h_.1))
      replace HO371 := Aside0.mk (Kd.R_mono (Kd.R_told (Kd.R_told (Kd.R_old (RU HO371.out) hb) (Kd.R_base ho0)) (Kd.R_base ho1)) (fun _ h_ => h_.1))
      replace BK356 := Aside0.mk (blk_below (g := gb356) (o := .cells #[.slice A0_0 l0_0.length c0_0, .slice A0_1 l0_1.length c0_1] 24 (0, 0)) (kU BK356.out) hb)
      replace BK357 := Aside0.mk (blk_below (g := gb357) (o := .cells #[.slice A1_0 l1_0.length c1_0, .slice A1_1 l1_1.length c1_1] 24 (0, 0)) (kU BK357.out) hb)
      replace BK379 := Aside0.mk (blk_below (g := gb379) (o := .cells #[.slice none 0 0, .slice none 0 0] 26 (0, 0)) (kU BK379.out) hb)
      replace HB := Aside0.mk (below_step (bS3 HB.out GE356.out GE357.out GE379.out) hb)
      (try clear hb)
      (try clear hb2)
      (try clear hk)
      (try clear hi)
      (try clear ho0)
      (try clear ho1)
      refine hK.out _ _ ⟨(blk_cell BK356.out 0).trans rfl, (blk_cell BK356.out 1).trans rfl, (blk_cell BK357.out 0).trans rfl, (blk_cell BK357.out 1).trans rfl⟩ (fun hHeld => ?_)
      clear hK K
      refine norm_ (a' := ?_) ?_ ?_
      rotate_left
      ·
       show Act.put _ (some 32) _ = _
       simp only [Act.put, List.setIfInBounds_toArray, List.set_cons_zero, List.set_cons_succ, i64_w, i32_w]
       rfl
      refine pure_ (i := 5) (N := some 27) (v := ?_) (a' := ?_) #[true, true, true, true, true, true, false, false, true, false, false] rfl rfl (any_of HT_.out (by kernel_rfl)) (fun _ _ _ h => h) (Or.inl ⟨by rfl, ?_⟩) ?_ ?_
      rotate_left
      ·
       intro w'
       go_simp
       with_reducible rfl
      rotate_left
      ·
       simp only [Act.put, List.setIfInBounds_toArray, List.set_cons_zero, List.set_cons_succ, i64_w, i32_w]
       rfl
      refine pure_ (i := 6) (N := some 33) (v := ?_) (a' := ?_) #[true, true, true, true, true, true, true, false, true, false, false] rfl rfl (any_of HT_.out (by kernel_rfl)) (fun _ _ _ h => h) (Or.inl ⟨by rfl, ?_⟩) ?_ ?_
      rotate_left
      ·
       intro w'
       go_simp
       with_reducible rfl
      rotate_left
      ·
       simp only [Act.put, List.setIfInBounds_toArray, List.set_cons_zero, List.set_cons_succ, i64_w, i32_w]
       rfl
      refine pure_ (i := 7) (N := some 34) (v := ?_) (a' := ?_) #[true, true, true, true, true, true, true, true, true, false, false] rfl rfl (any_of HT_.out (by kernel_rfl)) (fun _ _ _ h => h) (Or.inl ⟨by rfl, ?_⟩) ?_ ?_
      rotate_left
      ·
       intro w'
       go_simp
       with_reducible rfl
      rotate_left
      ·
       simp only [Act.put, List.setIfInBounds_toArray, List.set_cons_zero, List.set_cons_succ, i64_w, i32_w]
       rfl
      exact norm_ (by simp only [putAll, Act.put, List.setIfInBounds_toArray, List.set_cons_zero, List.set_cons_succ]) (hCont (.slice Ao37 t360.length co37, .slice Ao38 t363.length co38, .slice Ao39 t366.length co39, .slice Ao40 t369.length co40, v373, v376, gb379) _ ⟨hHeld, (by (with_reducible repeat (first | apply Kd.R_alloc | apply Kd.R_drewN | apply Kd.R_drew)); exact Kd.R_mono HO362.out (fun _ hk => ⟨hk.1.1.1.1, ⟨hk.1.1.1.2, ⟨hk.1.1.2, ⟨hk.1.2, hk.2⟩⟩⟩⟩)), (by (with_reducible repeat (first | apply Kd.R_alloc | apply Kd.R_drewN | apply Kd.R_drew)); exact Kd.R_mono HO365.out (fun _ hk => ⟨hk.1.1.1.1, ⟨hk.1.1.1.2, ⟨hk.1.1.2, ⟨hk.1.2, hk.2⟩⟩⟩⟩)), (by (with_reducible repeat (first | apply Kd.R_alloc | apply Kd.R_drewN | apply Kd.R_drew)); exact Kd.R_mono HO368.out (fun _ hk => ⟨hk.1.1.1.2, ⟨hk.1.1.2, ⟨hk.1.1.1.1, ⟨hk.1.2, hk.2⟩⟩⟩⟩)), (by (with_reducible repeat (first | apply Kd.R_alloc | apply Kd.R_drewN | apply Kd.R_drew)); exact Kd.R_mono HO371.out (fun _ hk => ⟨hk.1.1.1.2, ⟨hk.1.1.2, ⟨hk.1.1.1.1, ⟨hk.1.2, hk.2⟩⟩⟩⟩)), (by (with_reducible repeat (first | apply Kd.R_alloc | apply Kd.R_drewN | apply Kd.R_drew)); exact Kd.R_mono HO374.out (fun _ hk => ⟨hk.1.1.1.2, ⟨hk.1.1.2, ⟨hk.1.2, ⟨hk.2, hk.1.1.1.1⟩⟩⟩⟩)), (by (with_reducible repeat (first | apply Kd.R_alloc | apply Kd.R_drewN | apply Kd.R_drew)); exact Kd.R_mono HO377.out (fun _ hk => ⟨hk.1.1.1.2, ⟨hk.1.1.2, ⟨hk.1.2, ⟨hk.2, hk.1.1.1.1⟩⟩⟩⟩)), (kU BK356.out), (kU BK357.out), (kU BK379.out), GW379.out, GE379.out, NB356_379.out, NB379_356.out, NB357_379.out, NB379_357.out, (bS3 HB.out GE356.out GE357.out GE379.out)⟩)
    ·
     skip
     refine box_step ?hg (N := 6) ?hd (cs := #[.slice none 0 0, .slice none 0 0]) (t := 26) ?hr ?_; (case hd => rfl); (case hg => rfl); (case hr => first | (go_simp; done) | (go_simp; rfl))
     intro gb379 hg w34 hbox hb
     have BK379 := Aside0.mk (hbox)
     have GW379 := Aside0.mk ((by rw [hg]; exact (below_size (bS2 HB.out GE356.out GE357.out)) : w.heap.size ≤ gb379))
     have GE379 := Aside0.mk ((by rw [hg]; exact (below_size (bS2 HB.out GE356.out GE357.out)) : w.heap.size ≤ gb379))
     replace HB := Aside0.mk (below_step (bS2 HB.out GE356.out GE357.out) hb)
     have NB356_379 := Aside0.mk ((by rw [hg]; exact Nat.ne_of_lt (blk_lt (g := gb356) (o := .cells #[.slice A0_0 l0_0.length c0_0, .slice A0_1 l0_1.length c0_1] 24 (0, 0)) (kU BK356.out)) : gb356 ≠ gb379))
     have NB379_356 := Aside0.mk ((by rw [hg]; exact Nat.ne_of_gt (blk_lt (g := gb356) (o := .cells #[.slice A0_0 l0_0.length c0_0, .slice A0_1 l0_1.length c0_1] 24 (0, 0)) (kU BK356.out)) : gb379 ≠ gb356))
     replace BK356 := Aside0.mk (blk_below (g := gb356) (o := .cells #[.slice A0_0 l0_0.length c0_0, .slice A0_1 l0_1.length c0_1] 24 (0, 0)) (kU BK356.out) hb)
     have NB357_379 := Aside0.mk ((by rw [hg]; exact Nat.ne_of_lt (blk_lt (g := gb357) (o := .cells #[.slice A1_0 l1_0.length c1_0, .slice A1_1 l1_1.length c1_1] 24 (0, 0)) (kU BK357.out)) : gb357 ≠ gb379))
     have NB379_357 := Aside0.mk ((by rw [hg]; exact Nat.ne_of_gt (blk_lt (g := gb357) (o := .cells #[.slice A1_0 l1_0.length c1_0, .slice A1_1 l1_1.length c1_1] 24 (0, 0)) (kU BK357.out)) : gb379 ≠ gb357))
     replace BK357 := Aside0.mk (blk_below (g := gb357) (o := .cells #[.slice A1_0 l1_0.length c1_0, .slice A1_1 l1_1.length c1_1] 24 (0, 0)) (kU BK357.out) hb)
     clear hb hbox hg
     refine hK.out _ _ ⟨(blk_cell BK356.out 0).trans rfl, (blk_cell BK356.out 1).trans rfl, (blk_cell BK357.out 0).trans rfl, (blk_cell BK357.out 1).trans rfl⟩ (fun hHeld => ?_)
     clear hK K
     refine norm_ (a' := ?_) ?_ ?_
     rotate_left
     ·
      show Act.put _ (some 6) _ = _
      simp only [Act.put, List.setIfInBounds_toArray, List.set_cons_zero, List.set_cons_succ, i64_w, i32_w]
      rfl
     refine one_ (i := 1) (N := some 29) #[true, true, true, false, false, false, false, false, true, false, false] rfl rfl (one_of HT_.out (by kernel_rfl)) (by decide) (fun K hK => ?_)
     refine goes_ Try.func10 (by kernel_rfl) rfl #[.agg #[.slice A0_0 l0_0.length c0_0, .slice A0_1 l0_1.length c0_1]] (by rfl) rfl rfl (by (try simp only [List.map_toArray, List.map_cons, List.map_nil]); first | done | rfl | (simp only [List.length_drop, List.length_take]; rfl)) ?_
     with_reducible refine (laws_toArray.calls k _ _ l0_0 _ _ l0_1 t360 t363 _ ?side1 ?side2 ?side3 ?side4 A19.out).mono ?_
     (case side1 => exact cU (Kd.C_below HR0_0.out HB.out))
     (case side2 => exact HC0_0.out)
     (case side3 => exact cU (Kd.C_below HR0_1.out HB.out))
     (case side4 => exact HC0_1.out)
     rintro e w35 ⟨v361, v364, rfl, ho0, ho1, hb⟩
     refine ⟨_, rfl, ?_⟩
     have HO362 := Aside0.mk (Kd.R_lower ho0 (below_size (bS3 HB.out GE356.out GE357.out GE379.out)))
     have HO365 := Aside0.mk (Kd.R_lower ho1 (below_size (bS3 HB.out GE356.out GE357.out GE379.out)))
     replace BK356 := Aside0.mk (blk_below (g := gb356) (o := .cells #[.slice A0_0 l0_0.length c0_0, .slice A0_1 l0_1.length c0_1] 24 (0, 0)) (kU BK356.out) hb)
     replace BK357 := Aside0.mk (blk_below (g := gb357) (o := .cells #[.slice A1_0 l1_0.length c1_0, .slice A1_1 l1_1.length c1_1] 24 (0, 0)) (kU BK357.out) hb)
     replace BK379 := Aside0.mk (blk_below (g := gb379) (o := .cells #[.slice none 0 0, .slice none 0 0] 26 (0, 0)) (kU BK379.out) hb)
     replace HB := Aside0.mk (below_step (bS3 HB.out GE356.out GE357.out GE379.out) hb)
     (try clear hb)
     (try clear hb2)
     (try clear hk)
     (try clear hi)
     (try clear ho0)
     (try clear ho1)
     refine hK.out _ _ ⟨(blk_cell BK356.out 0).trans rfl, (blk_cell BK356.out 1).trans rfl, (blk_cell BK357.out 0).trans rfl, (blk_cell BK357.out 1).trans rfl⟩ (fun hHeld => ?_)
     clear hK K
     refine norm_ (a' := ?_) ?_ ?_
     rotate_left
     ·
      show Act.put _ (some 29) _ = _
      simp only [Act.put, List.setIfInBounds_toArray, List.set_cons_zero, List.set_cons_succ, i64_w, i32_w]
      rfl
     refine one_ (i := 3) (N := some 31) #[true, true, true, true, false, false, false, false, true, false, false] rfl rfl (one_of HT_.out (by kernel_rfl)) (by decide) (fun K hK => ?_)
     refine goes_ Try.func10 (by kernel_rfl) rfl #[.agg #[.slice A1_0 l1_0.length c1_0, .slice A1_1 l1_1.length c1_1]] (by rfl) rfl rfl (by (try simp only [List.map_toArray, List.map_cons, List.map_nil]); first | done | rfl | (simp only [List.length_drop, List.length_take]; rfl)) ?_
     with_reducible refine (laws_toArray.calls k _ _ l1_0 _ _ l1_1 t366 t369 _ ?side1 ?side2 ?side3 ?side4 A20.out).mono ?_
     (case side1 => exact cU (Kd.C_below HR1_0.out HB.out))
     (case side2 => exact HC1_0.out)
     (case side3 => exact cU (Kd.C_below HR1_1.out HB.out))
     (case side4 => exact HC1_1.out)
     rintro e w36 ⟨v367, v370, rfl, ho0, ho1, hb⟩
     refine ⟨_, rfl, ?_⟩
     have HO368 := Aside0.mk (Kd.R_lower (Kd.R_new' (Kd.R_new' ho0 (Kd.R_lt (RU HO362.out))) (Kd.R_lt (RU HO365.out))) (below_size (bS3 HB.out GE356.out GE357.out GE379.out)))
     have HO371 := Aside0.mk (Kd.R_lower (Kd.R_new' (Kd.R_new' ho1 (Kd.R_lt (RU HO362.out))) (Kd.R_lt (RU HO365.out))) (below_size (bS3 HB.out GE356.out GE357.out GE379.out)))
     replace HO362 := Aside0.mk (Kd.R_mono (Kd.R_told (Kd.R_told (Kd.R_old (RU HO362.out) hb) (Kd.R_base ho0)) (Kd.R_base ho1)) (fun _ h_ => h_.1))
     replace HO365 := Aside0.mk (Kd.R_mono (Kd.R_told (Kd.R_told (Kd.R_old (RU HO365.out) hb) (Kd.R_base ho0)) (Kd.R_base ho1)) (fun _ h_ => h_.1))
     replace BK356 := Aside0.mk (blk_below (g := gb356) (o := .cells #[.slice A0_0 l0_0.length c0_0, .slice A0_1 l0_1.length c0_1] 24 (0, 0)) (kU BK356.out) hb)
     replace BK357 := Aside0.mk (blk_below (g := gb357) (o := .cells #[.slice A1_0 l1_0.length c1_0, .slice A1_1 l1_1.length c1_1] 24 (0, 0)) (kU BK357.out) hb)
     replace BK379 := Aside0.mk (blk_below (g := gb379) (o := .cells #[.slice none 0 0, .slice none 0 0] 26 (0, 0)) (kU BK379.out) hb)
     replace HB := Aside0.mk (below_step (bS3 HB.out GE356.out GE357.out GE379.out) hb)
     (try clear hb)
     (try clear hb2)
     (try clear hk)
     (try clear hi)
     (try clear ho0)
     (try clear ho1)
     obtain ⟨Ao37, co37, eo37⟩ := Kd.R_slice HO362.out
     (first | subst eo37 | (injection eo37 with f1_ f2_ f3_; have f4_ := f1_.symm; have f5_ := f3_.symm; clear f1_ f2_ f3_; subst f4_; subst f5_))
     obtain ⟨Ao38, co38, eo38⟩ := Kd.R_slice HO365.out
     (first | subst eo38 | (injection eo38 with f1_ f2_ f3_; have f4_ := f1_.symm; have f5_ := f3_.symm; clear f1_ f2_ f3_; subst f4_; subst f5_))
     obtain ⟨Ao39, co39, eo39⟩ := Kd.R_slice HO368.out
     (first | subst eo39 | (injection eo39 with f1_ f2_ f3_; have f4_ := f1_.symm; have f5_ := f3_.symm; clear f1_ f2_ f3_; subst f4_; subst f5_))
     obtain ⟨Ao40, co40, eo40⟩ := Kd.R_slice HO371.out
     (first | subst eo40 | (injection eo40 with f1_ f2_ f3_; have f4_ := f1_.symm; have f5_ := f3_.symm; clear f1_ f2_ f3_; subst f4_; subst f5_))
     refine hK.out _ _ ⟨(blk_cell BK356.out 0).trans rfl, (blk_cell BK356.out 1).trans rfl, (blk_cell BK357.out 0).trans rfl, (blk_cell BK357.out 1).trans rfl⟩ (fun hHeld => ?_)
     clear hK K
     refine norm_ (a' := ?_) ?_ ?_
     rotate_left
     ·
      show Act.put _ (some 31) _ = _
      simp only [Act.put, List.setIfInBounds_toArray, List.set_cons_zero, List.set_cons_succ, i64_w, i32_w]
      rfl
     refine one_ (i := 4) (N := some 32) #[true, true, true, true, true, false, false, false, true, false, false] rfl rfl (one_of HT_.out (by kernel_rfl)) (by decide) (fun K hK => ?_)
     refine goes_ Try.func9 (by kernel_rfl) rfl #[.agg #[.slice Ao37 t360.length co37, .slice Ao38 t363.length co38], .agg #[.slice Ao39 t366.length co39, .slice Ao40 t369.length co40]] (by rfl) rfl rfl (by (try simp only [List.map_toArray, List.map_cons, List.map_nil]); first | done | rfl | (simp only [List.length_drop, List.length_take]; rfl)) ?_
     with_reducible refine (spec_Drop.calls k _ _ t360 _ _ t363 _ _ t366 _ _ t369 t372 t375 t378 _ ?side1 ?side2 ?side3 ?side4 ?side5 ?side6 ?side7 ?side8 A21.out).mono ?_
     (case side1 => exact cU (Kd.R_reads' HO362.out).2.2)
     (case side2 => exact (Kd.R_reads' HO362.out).2.1)
     (case side3 => exact cU (Kd.R_reads' HO365.out).2.2)
     (case side4 => exact (Kd.R_reads' HO365.out).2.1)
     (case side5 => exact cU (Kd.R_reads' HO368.out).2.2)
     (case side6 => exact (Kd.R_reads' HO368.out).2.1)
     (case side7 => exact cU (Kd.R_reads' HO371.out).2.2)
     (case side8 => exact (Kd.R_reads' HO371.out).2.1)
     rintro e w41 ⟨v373, v376, rfl, ho0, ho1, hb⟩
     refine ⟨_, rfl, ?_⟩
     have HO374 := Aside0.mk (Kd.R_lower (Kd.R_new' (Kd.R_new' (Kd.R_new' (Kd.R_new' ho0 (Kd.R_lt (RU HO362.out))) (Kd.R_lt (RU HO365.out))) (Kd.R_lt (RU HO368.out))) (Kd.R_lt (RU HO371.out))) (below_size (bS3 HB.out GE356.out GE357.out GE379.out)))
     have HO377 := Aside0.mk (Kd.R_lower (Kd.R_new' (Kd.R_new' (Kd.R_new' (Kd.R_new' ho1 (Kd.R_lt (RU HO362.out))) (Kd.R_lt (RU HO365.out))) (Kd.R_lt (RU HO368.out))) (Kd.R_lt (RU HO371.out))) (below_size (bS3 HB.out GE356.out GE357.out GE379.out)))
     replace HO362 := Aside0.mk (Kd.R_mono (Kd.R_told (Kd.R_told (Kd.R_old (RU HO362.out) hb) (Kd.R_base ho0)) (Kd.R_base ho1)) (fun _ h_ => h_.1))
     replace HO365 := Aside0.mk (Kd.R_mono (Kd.R_told (Kd.R_told (Kd.R_old (RU HO365.out) hb) (Kd.R_base ho0)) (Kd.R_base ho1)) (fun _ h_ => h_.1))
     replace HO368 := Aside0.mk (Kd.R_mono (Kd.R_told (Kd.R_told (Kd.R_old (RU HO368.out) hb) (Kd.R_base ho0)) (Kd.R_base ho1)) (fun _ h_ => h_.1))
     replace HO371 := Aside0.mk (Kd.R_mono (Kd.R_told (Kd.R_told (Kd.R_old (RU HO371.out) hb) (Kd.R_base ho0)) (Kd.R_base ho1)) (fun _ h_ => h_.1))
     replace BK356 := Aside0.mk (blk_below (g := gb356) (o := .cells #[.slice A0_0 l0_0.length c0_0, .slice A0_1 l0_1.length c0_1] 24 (0, 0)) (kU BK356.out) hb)
     replace BK357 := Aside0.mk (blk_below (g := gb357) (o := .cells #[.slice A1_0 l1_0.length c1_0, .slice A1_1 l1_1.length c1_1] 24 (0, 0)) (kU BK357.out) hb)
     replace BK379 := Aside0.mk (blk_below (g := gb379) (o := .cells #[.slice none 0 0, .slice none 0 0] 26 (0, 0)) (kU BK379.out) hb)
     replace HB := Aside0.mk (below_step (bS3 HB.out GE356.out GE357.out GE379.out) hb)
     (try clear hb)
     (try clear hb2)
     (try clear hk)
     (try clear hi)
     (try clear ho0)
     (try clear ho1)
     refine hK.out _ _ ⟨(blk_cell BK356.out 0).trans rfl, (blk_cell BK356.out 1).trans rfl, (blk_cell BK357.out 0).trans rfl, (blk_cell BK357.out 1).trans rfl⟩ (fun hHeld => ?_)
     clear hK K
     refine norm_ (a' := ?_) ?_ ?_
     rotate_left
     ·
      show Act.put _ (some 32) _ = _
      simp only [Act.put, List.setIfInBounds_toArray, List.set_cons_zero, List.set_cons_succ, i64_w, i32_w]
      rfl
     refine pure_ (i := 5) (N := some 27) (v := ?_) (a' := ?_) #[true, true, true, true, true, true, false, false, true, false, false] rfl rfl (any_of HT_.out (by kernel_rfl)) (fun _ _ _ h => h) (Or.inl ⟨by rfl, ?_⟩) ?_ ?_
     rotate_left
     ·
      intro w'
      go_simp
      with_reducible rfl
     rotate_left
     ·
      simp only [Act.put, List.setIfInBounds_toArray, List.set_cons_zero, List.set_cons_succ, i64_w, i32_w]
      rfl
     refine pure_ (i := 6) (N := some 33) (v := ?_) (a' := ?_) #[true, true, true, true, true, true, true, false, true, false, false] rfl rfl (any_of HT_.out (by kernel_rfl)) (fun _ _ _ h => h) (Or.inl ⟨by rfl, ?_⟩) ?_ ?_
     rotate_left
     ·
      intro w'
      go_simp
      with_reducible rfl
     rotate_left
     ·
      simp only [Act.put, List.setIfInBounds_toArray, List.set_cons_zero, List.set_cons_succ, i64_w, i32_w]
      rfl
     refine pure_ (i := 7) (N := some 34) (v := ?_) (a' := ?_) #[true, true, true, true, true, true, true, true, true, false, false] rfl rfl (any_of HT_.out (by kernel_rfl)) (fun _ _ _ h => h) (Or.inl ⟨by rfl, ?_⟩) ?_ ?_
     rotate_left
     ·
      intro w'
      go_simp
      with_reducible rfl
     rotate_left
     ·
      simp only [Act.put, List.setIfInBounds_toArray, List.set_cons_zero, List.set_cons_succ, i64_w, i32_w]
      rfl
     exact norm_ (by simp only [putAll, Act.put, List.setIfInBounds_toArray, List.set_cons_zero, List.set_cons_succ]) (hCont (.slice Ao37 t360.length co37, .slice Ao38 t363.length co38, .slice Ao39 t366.length co39, .slice Ao40 t369.length co40, v373, v376, gb379) _ ⟨hHeld, (by (with_reducible repeat (first | apply Kd.R_alloc | apply Kd.R_drewN | apply Kd.R_drew)); exact Kd.R_mono HO362.out (fun _ hk => ⟨hk.1.1.1.1, ⟨hk.1.1.1.2, ⟨hk.1.1.2, ⟨hk.1.2, hk.2⟩⟩⟩⟩)), (by (with_reducible repeat (first | apply Kd.R_alloc | apply Kd.R_drewN | apply Kd.R_drew)); exact Kd.R_mono HO365.out (fun _ hk => ⟨hk.1.1.1.1, ⟨hk.1.1.1.2, ⟨hk.1.1.2, ⟨hk.1.2, hk.2⟩⟩⟩⟩)), (by (with_reducible repeat (first | apply Kd.R_alloc | apply Kd.R_drewN | apply Kd.R_drew)); exact Kd.R_mono HO368.out (fun _ hk => ⟨hk.1.1.1.2, ⟨hk.1.1.2, ⟨hk.1.1.1.1, ⟨hk.1.2, hk.2⟩⟩⟩⟩)), (by (with_reducible repeat (first | apply Kd.R_alloc | apply Kd.R_drewN | apply Kd.R_drew)); exact Kd.R_mono HO371.out (fun _ hk => ⟨hk.1.1.1.2, ⟨hk.1.1.2, ⟨hk.1.1.1.1, ⟨hk.1.2, hk.2⟩⟩⟩⟩)), (by (with_reducible repeat (first | apply Kd.R_alloc | apply Kd.R_drewN | apply Kd.R_drew)); exact Kd.R_mono HO374.out (fun _ hk => ⟨hk.1.1.1.2, ⟨hk.1.1.2, ⟨hk.1.2, ⟨hk.2, hk.1.1.1.1⟩⟩⟩⟩)), (by (with_reducible repeat (first | apply Kd.R_alloc | apply Kd.R_drewN | apply Kd.R_drew)); exact Kd.R_mono HO377.out (fun _ hk => ⟨hk.1.1.1.2, ⟨hk.1.1.2, ⟨hk.1.2, ⟨hk.2, hk.1.1.1.1⟩⟩⟩⟩)), (kU BK356.out), (kU BK357.out), (kU BK379.out), GW379.out, GE379.out, NB356_379.out, NB379_356.out, NB357_379.out, NB379_357.out, (bS3 HB.out GE356.out GE357.out GE379.out)⟩)
   rintro ⟨v361, v364, v367, v370, v373, v376, gb379⟩ w42 ⟨hS_, h0_, h1_, h2_, h3_, h4_, h5_, h6_, h7_, h8_, h9_, h10_, h11_, h12_, h13_, h14_, h15_⟩
   have n0_ : Aside0 (Kd.R (Kd.int .i64) 3 w42 w.heap.size (fun k_ => some k_ ≠ (v364 : Value).ownBlock ∧ some k_ ≠ (v367 : Value).ownBlock ∧ some k_ ≠ (v370 : Value).ownBlock ∧ some k_ ≠ (v373 : Value).ownBlock ∧ some k_ ≠ (v376 : Value).ownBlock) v361 t360) := ⟨h0_⟩
   have n1_ : Aside0 (Kd.R (Kd.int .i64) 3 w42 w.heap.size (fun k_ => some k_ ≠ (v361 : Value).ownBlock ∧ some k_ ≠ (v367 : Value).ownBlock ∧ some k_ ≠ (v370 : Value).ownBlock ∧ some k_ ≠ (v373 : Value).ownBlock ∧ some k_ ≠ (v376 : Value).ownBlock) v364 t363) := ⟨h1_⟩
   have n2_ : Aside0 (Kd.R (Kd.int .i64) 3 w42 w.heap.size (fun k_ => some k_ ≠ (v361 : Value).ownBlock ∧ some k_ ≠ (v364 : Value).ownBlock ∧ some k_ ≠ (v370 : Value).ownBlock ∧ some k_ ≠ (v373 : Value).ownBlock ∧ some k_ ≠ (v376 : Value).ownBlock) v367 t366) := ⟨h2_⟩
   have n3_ : Aside0 (Kd.R (Kd.int .i64) 3 w42 w.heap.size (fun k_ => some k_ ≠ (v361 : Value).ownBlock ∧ some k_ ≠ (v364 : Value).ownBlock ∧ some k_ ≠ (v367 : Value).ownBlock ∧ some k_ ≠ (v373 : Value).ownBlock ∧ some k_ ≠ (v376 : Value).ownBlock) v370 t369) := ⟨h3_⟩
   have n4_ : Aside0 (Kd.R (Kd.int .i64) 3 w42 w.heap.size (fun k_ => some k_ ≠ (v361 : Value).ownBlock ∧ some k_ ≠ (v364 : Value).ownBlock ∧ some k_ ≠ (v367 : Value).ownBlock ∧ some k_ ≠ (v370 : Value).ownBlock ∧ some k_ ≠ (v376 : Value).ownBlock) v373 t372) := ⟨h4_⟩
   have n5_ : Aside0 (Kd.R (Kd.int .i64) 3 w42 w.heap.size (fun k_ => some k_ ≠ (v361 : Value).ownBlock ∧ some k_ ≠ (v364 : Value).ownBlock ∧ some k_ ≠ (v367 : Value).ownBlock ∧ some k_ ≠ (v370 : Value).ownBlock ∧ some k_ ≠ (v373 : Value).ownBlock) v376 t375) := ⟨h5_⟩
   have n6_ : Aside0 (w42.heap[gb356]? = some (.cells #[.slice A0_0 l0_0.length c0_0, .slice A0_1 l0_1.length c0_1] 24 (0, 0))) := ⟨h6_⟩
   have n7_ : Aside0 (w42.heap[gb357]? = some (.cells #[.slice A1_0 l1_0.length c1_0, .slice A1_1 l1_1.length c1_1] 24 (0, 0))) := ⟨h7_⟩
   have n8_ : Aside0 (w42.heap[gb379]? = some (.cells #[.slice none 0 0, .slice none 0 0] 26 (0, 0))) := ⟨h8_⟩
   have n9_ : Aside0 (w.heap.size ≤ gb379) := ⟨h9_⟩
   have n10_ : Aside0 (w.heap.size ≤ gb379) := ⟨h10_⟩
   have n11_ : Aside0 (gb356 ≠ gb379) := ⟨h11_⟩
   have n12_ : Aside0 (gb379 ≠ gb356) := ⟨h12_⟩
   have n13_ : Aside0 (gb357 ≠ gb379) := ⟨h13_⟩
   have n14_ : Aside0 (gb379 ≠ gb357) := ⟨h14_⟩
   have n15_ : Aside0 (Below w.heap.size w w42) := ⟨h15_⟩
   clear BK356 BK357 HB
   clear h0_ h1_ h2_ h3_ h4_ h5_ h6_ h7_ h8_ h9_ h10_ h11_ h12_ h13_ h14_ h15_
   have HO362 := n0_
   have HO365 := n1_
   have HO368 := n2_
   have HO371 := n3_
   have HO374 := n4_
   have HO377 := n5_
   have BK356 := n6_
   have BK357 := n7_
   have BK379 := n8_
   have GW379 := n9_
   have GE379 := n10_
   have NB356_379 := n11_
   have NB379_356 := n12_
   have NB357_379 := n13_
   have NB379_357 := n14_
   have HB := n15_
   clear n0_ n1_ n2_ n3_ n4_ n5_ n6_ n7_ n8_ n9_ n10_ n11_ n12_ n13_ n14_ n15_
   have hHeld : w42.cell? ⟨gb356, 0, none⟩ = some (.slice A0_0 l0_0.length c0_0) ∧ w42.cell? ⟨gb356, 1, none⟩ = some (.slice A0_1 l0_1.length c0_1) ∧ w42.cell? ⟨gb357, 0, none⟩ = some (.slice A1_0 l1_0.length c1_0) ∧ w42.cell? ⟨gb357, 1, none⟩ = some (.slice A1_1 l1_1.length c1_1) := hS_
   obtain ⟨Ao43, co43, eo43⟩ := Kd.R_slice HO374.out
   (first | subst eo43 | (injection eo43 with f1_ f2_ f3_; have f4_ := f1_.symm; have f5_ := f3_.symm; clear f1_ f2_ f3_; subst f4_; subst f5_))
   obtain ⟨Ao45, co45, eo45⟩ := Kd.R_slice HO377.out
   (first | subst eo45 | (injection eo45 with f1_ f2_ f3_; have f4_ := f1_.symm; have f5_ := f3_.symm; clear f1_ f2_ f3_; subst f4_; subst f5_))
   refine norm_ (a' := ?_) ?_ ?_
   rotate_left
   ·
    simp only [putAll, Act.put, List.setIfInBounds_toArray, List.set_cons_zero, List.set_cons_succ]
    rfl
   refine one_ (i := 9) (N := none) #[true, true, true, true, true, true, true, true, true, true, false] rfl rfl (one_of HT_.out (by kernel_rfl)) (by decide) (fun K hK => ?_)
   have hs44 : w42.cell? ⟨gb379, 0, none⟩ = some (.slice none 0 0) := (blk_cell BK379.out 0).trans rfl
   have hfs44 := blk_frozen BK379.out 0
   have hns44_0 := NB356_379.out
   have hns44_1 := NB357_379.out
   have hms44_0 := NB379_356.out
   have hms44_1 := NB379_357.out
   have hs46 : w42.cell? ⟨gb379, 1, none⟩ = some (.slice none 0 0) := (blk_cell BK379.out 1).trans rfl
   have hfs46 := blk_frozen BK379.out 1
   have hns46_0 := NB356_379.out
   have hns46_1 := NB357_379.out
   have hms46_0 := NB379_356.out
   have hms46_1 := NB379_357.out
   refine skip_ (w1 := ?_) (by rfl) rfl ?_ ?_
   rotate_left
   ·
    go_simp
    rfl
   refine hK.out _ _ ⟨((cell_far (p := ⟨gb379, _, none⟩) NB356_379.out _).trans (((cell_far (p := ⟨gb379, _, none⟩) NB356_379.out _).trans (hHeld.1)))), ((cell_far (p := ⟨gb379, _, none⟩) NB356_379.out _).trans (((cell_far (p := ⟨gb379, _, none⟩) NB356_379.out _).trans (hHeld.2.1)))), ((cell_far (p := ⟨gb379, _, none⟩) NB357_379.out _).trans (((cell_far (p := ⟨gb379, _, none⟩) NB357_379.out _).trans (hHeld.2.2.1)))), ((cell_far (p := ⟨gb379, _, none⟩) NB357_379.out _).trans (((cell_far (p := ⟨gb379, _, none⟩) NB357_379.out _).trans (hHeld.2.2.2))))⟩ (fun hHeld => ?_)
   clear hK K
   refine pure_ (i := 10) (N := some 7) (v := ?_) (a' := ?_) #[true, true, true, true, true, true, true, true, true, true, true] rfl rfl (any_of HT_.out (by kernel_rfl)) (fun _ _ _ h => h) (Or.inl ⟨by rfl, ?_⟩) ?_ ?_
   rotate_left
   ·
    intro w'
    go_simp
    with_reducible rfl
   rotate_left
   ·
    simp only [Act.put, List.setIfInBounds_toArray, List.set_cons_zero, List.set_cons_succ, i64_w, i32_w]
    rfl
   refine done_ (done_of HT_.out (by kernel_rfl)) ?_
   have hnb47 := NB356_379.out
   have hnc47 := NB379_356.out
   have hcz48_0 : w42.cell? ⟨gb356, 0, none⟩ = some (.slice A0_0 l0_0.length c0_0) := (blk_cell BK356.out 0).trans rfl
   have hcz48_1 : w42.cell? ⟨gb356, 1, none⟩ = some (.slice A0_1 l0_1.length c0_1) := (blk_cell BK356.out 1).trans rfl
   have hfz48_0 := blk_frozen BK356.out 0
   have hfz48_1 := blk_frozen BK356.out 1
   go_upto_region 12 with (first | ((with_reducible refine gate_callee (f := 10) rfl ?_); refine goesL_ (some 36) rfl rfl Try.func10 (by kernel_rfl) rfl #[.agg #[.slice A0_0 l0_0.length c0_0, .slice A0_1 l0_1.length c0_1]] rfl (by (try simp only [List.map_toArray, List.map_cons, List.map_nil]); first | done | rfl | (simp only [List.length_drop, List.length_take]; rfl)) ?_; (with_reducible refine (laws_toArray.calls k _ _ l0_0 _ _ l0_1 t380 t383 _ ?side1 ?side2 ?side3 ?side4 A22.out).mono ?_); (case side1 => exact Kd.C_below HR0_0.out (bS3 HB.out GE356.out GE357.out GE379.out)); (case side2 => exact HC0_0.out); (case side3 => exact Kd.C_below HR0_1.out (bS3 HB.out GE356.out GE357.out GE379.out)); (case side4 => exact HC0_1.out); rintro e w49 ⟨v381, v384, rfl, ho0, ho1, hb⟩; refine ⟨_, rfl, ?_⟩; have HO382 := Aside0.mk (Kd.R_lower (Kd.R_new' (Kd.R_new' (Kd.R_new' (Kd.R_new' (Kd.R_new' (Kd.R_new' ho0 (Kd.R_lt (by (with_reducible repeat (first | apply Kd.R_alloc | apply Kd.R_drewN | apply Kd.R_drew)); exact (far2 HO362.out BK379.out)))) (Kd.R_lt (by (with_reducible repeat (first | apply Kd.R_alloc | apply Kd.R_drewN | apply Kd.R_drew)); exact (far2 HO365.out BK379.out)))) (Kd.R_lt (by (with_reducible repeat (first | apply Kd.R_alloc | apply Kd.R_drewN | apply Kd.R_drew)); exact (far2 HO368.out BK379.out)))) (Kd.R_lt (by (with_reducible repeat (first | apply Kd.R_alloc | apply Kd.R_drewN | apply Kd.R_drew)); exact (far2 HO371.out BK379.out)))) (Kd.R_lt (by (with_reducible repeat (first | apply Kd.R_alloc | apply Kd.R_drewN | apply Kd.R_drew)); exact (far2 HO374.out BK379.out)))) (Kd.R_lt (by (with_reducible repeat (first | apply Kd.R_alloc | apply Kd.R_drewN | apply Kd.R_drew)); exact (far2 HO377.out BK379.out)))) (below_size (bS3 HB.out GE356.out GE357.out GE379.out))); have HO385 := Aside0.mk (Kd.R_lower (Kd.R_new' (Kd.R_new' (Kd.R_new' (Kd.R_new' (Kd.R_new' (Kd.R_new' ho1 (Kd.R_lt (by (with_reducible repeat (first | apply Kd.R_alloc | apply Kd.R_drewN | apply Kd.R_drew)); exact (far2 HO362.out BK379.out)))) (Kd.R_lt (by (with_reducible repeat (first | apply Kd.R_alloc | apply Kd.R_drewN | apply Kd.R_drew)); exact (far2 HO365.out BK379.out)))) (Kd.R_lt (by (with_reducible repeat (first | apply Kd.R_alloc | apply Kd.R_drewN | apply Kd.R_drew)); exact (far2 HO368.out BK379.out)))) (Kd.R_lt (by (with_reducible repeat (first | apply Kd.R_alloc | apply Kd.R_drewN | apply Kd.R_drew)); exact (far2 HO371.out BK379.out)))) (Kd.R_lt (by (with_reducible repeat (first | apply Kd.R_alloc | apply Kd.R_drewN | apply Kd.R_drew)); exact (far2 HO374.out BK379.out)))) (Kd.R_lt (by (with_reducible repeat (first | apply Kd.R_alloc | apply Kd.R_drewN | apply Kd.R_drew)); exact (far2 HO377.out BK379.out)))) (below_size (bS3 HB.out GE356.out GE357.out GE379.out))); replace HO362 := Aside0.mk (Kd.R_mono (Kd.R_told (Kd.R_told (Kd.R_old (by (with_reducible repeat (first | apply Kd.R_alloc | apply Kd.R_drewN | apply Kd.R_drew)); exact (far2 HO362.out BK379.out)) hb) (Kd.R_base ho0)) (Kd.R_base ho1)) (fun _ h_ => h_.1)); replace HO365 := Aside0.mk (Kd.R_mono (Kd.R_told (Kd.R_told (Kd.R_old (by (with_reducible repeat (first | apply Kd.R_alloc | apply Kd.R_drewN | apply Kd.R_drew)); exact (far2 HO365.out BK379.out)) hb) (Kd.R_base ho0)) (Kd.R_base ho1)) (fun _ h_ => h_.1)); replace HO368 := Aside0.mk (Kd.R_mono (Kd.R_told (Kd.R_told (Kd.R_old (by (with_reducible repeat (first | apply Kd.R_alloc | apply Kd.R_drewN | apply Kd.R_drew)); exact (far2 HO368.out BK379.out)) hb) (Kd.R_base ho0)) (Kd.R_base ho1)) (fun _ h_ => h_.1)); replace HO371 := Aside0.mk (Kd.R_mono (Kd.R_told (Kd.R_told (Kd.R_old (by (with_reducible repeat (first | apply Kd.R_alloc | apply Kd.R_drewN | apply Kd.R_drew)); exact (far2 HO371.out BK379.out)) hb) (Kd.R_base ho0)) (Kd.R_base ho1)) (fun _ h_ => h_.1)); replace HO374 := Aside0.mk (Kd.R_mono (Kd.R_told (Kd.R_told (Kd.R_old (by (with_reducible repeat (first | apply Kd.R_alloc | apply Kd.R_drewN | apply Kd.R_drew)); exact (far2 HO374.out BK379.out)) hb) (Kd.R_base ho0)) (Kd.R_base ho1)) (fun _ h_ => h_.1)); replace HO377 := Aside0.mk (Kd.R_mono (Kd.R_told (Kd.R_told (Kd.R_old (by (with_reducible repeat (first | apply Kd.R_alloc | apply Kd.R_drewN | apply Kd.R_drew)); exact (far2 HO377.out BK379.out)) hb) (Kd.R_base ho0)) (Kd.R_base ho1)) (fun _ h_ => h_.1)); replace BK356 := Aside0.mk (blk_below (g := gb356) (o := .cells #[.slice A0_0 l0_0.length c0_0, .slice A0_1 l0_1.length c0_1] 24 (0, 0)) (by (with_reducible repeat (first | refine blk_drewN ?_ _ | refine blk_drew ?_ | refine blk_alloc ?_ _)); refine blk_far ?_ NB356_379.out _; (with_reducible repeat (first | refine blk_drewN ?_ _ | refine blk_drew ?_ | refine blk_alloc ?_ _)); refine blk_far ?_ NB356_379.out _; (with_reducible repeat (first | refine blk_drewN ?_ _ | refine blk_drew ?_ | refine blk_alloc ?_ _)); exact BK356.out) hb); replace BK357 := Aside0.mk (blk_below (g := gb357) (o := .cells #[.slice A1_0 l1_0.length c1_0, .slice A1_1 l1_1.length c1_1] 24 (0, 0)) (by (with_reducible repeat (first | refine blk_drewN ?_ _ | refine blk_drew ?_ | refine blk_alloc ?_ _)); refine blk_far ?_ NB357_379.out _; (with_reducible repeat (first | refine blk_drewN ?_ _ | refine blk_drew ?_ | refine blk_alloc ?_ _)); refine blk_far ?_ NB357_379.out _; (with_reducible repeat (first | refine blk_drewN ?_ _ | refine blk_drew ?_ | refine blk_alloc ?_ _)); exact BK357.out) hb); replace BK379 := Aside0.mk (blk_below (g := gb379) (o := .cells #[.slice Ao43 t372.length co43, .slice Ao45 t375.length co45] 26 (0, 0)) (by (with_reducible repeat (first | refine blk_drewN ?_ _ | refine blk_drew ?_ | refine blk_alloc ?_ _)); refine blk_put (cs := #[.slice Ao43 t372.length co43, .slice none 0 0]) ?_ 1 _ rfl; (with_reducible repeat (first | refine blk_drewN ?_ _ | refine blk_drew ?_ | refine blk_alloc ?_ _)); refine blk_put (cs := #[.slice none 0 0, .slice none 0 0]) ?_ 0 _ rfl; (with_reducible repeat (first | refine blk_drewN ?_ _ | refine blk_drew ?_ | refine blk_alloc ?_ _)); exact BK379.out) hb); replace HB := Aside0.mk (below_step (bS3 HB.out GE356.out GE357.out GE379.out) hb); (try clear hb); (try clear hb2); (try clear hk); (try clear hi); (try clear ho0); (try clear ho1)) | ((with_reducible refine gate_dst (N := 8) rfl ?_); refine box_event ?hg (N := 8) ?hd (cs := #[.slice none 0 0, .slice none 0 0]) (t := 26) ?hr ?_; (case hd => rfl); (case hg => rfl); (case hr => first | (go_simp; done) | (go_simp; rfl)); intro gb386 hg w50 hbox hb; replace HO362 := Aside0.mk (Kd.R_below (RU HO362.out) hb); replace HO365 := Aside0.mk (Kd.R_below (RU HO365.out) hb); replace HO368 := Aside0.mk (Kd.R_below (RU HO368.out) hb); replace HO371 := Aside0.mk (Kd.R_below (RU HO371.out) hb); replace HO374 := Aside0.mk (Kd.R_below (RU HO374.out) hb); replace HO377 := Aside0.mk (Kd.R_below (RU HO377.out) hb); replace HO382 := Aside0.mk (Kd.R_below (RU HO382.out) hb); replace HO385 := Aside0.mk (Kd.R_below (RU HO385.out) hb); have BK386 := Aside0.mk (hbox); have GW386 := Aside0.mk ((by rw [hg]; exact (below_size (bS3 HB.out GE356.out GE357.out GE379.out)) : w.heap.size ≤ gb386)); have GE386 := Aside0.mk ((by rw [hg]; exact (below_size (bS3 HB.out GE356.out GE357.out GE379.out)) : w.heap.size ≤ gb386)); replace HB := Aside0.mk (below_step (bS3 HB.out GE356.out GE357.out GE379.out) hb); have NB356_386 := Aside0.mk ((by rw [hg]; exact Nat.ne_of_lt (blk_lt (g := gb356) (o := .cells #[.slice A0_0 l0_0.length c0_0, .slice A0_1 l0_1.length c0_1] 24 (0, 0)) (kU BK356.out)) : gb356 ≠ gb386)); have NB386_356 := Aside0.mk ((by rw [hg]; exact Nat.ne_of_gt (blk_lt (g := gb356) (o := .cells #[.slice A0_0 l0_0.length c0_0, .slice A0_1 l0_1.length c0_1] 24 (0, 0)) (kU BK356.out)) : gb386 ≠ gb356)); replace BK356 := Aside0.mk (blk_below (g := gb356) (o := .cells #[.slice A0_0 l0_0.length c0_0, .slice A0_1 l0_1.length c0_1] 24 (0, 0)) (kU BK356.out) hb); have NB357_386 := Aside0.mk ((by rw [hg]; exact Nat.ne_of_lt (blk_lt (g := gb357) (o := .cells #[.slice A1_0 l1_0.length c1_0, .slice A1_1 l1_1.length c1_1] 24 (0, 0)) (kU BK357.out)) : gb357 ≠ gb386)); have NB386_357 := Aside0.mk ((by rw [hg]; exact Nat.ne_of_gt (blk_lt (g := gb357) (o := .cells #[.slice A1_0 l1_0.length c1_0, .slice A1_1 l1_1.length c1_1] 24 (0, 0)) (kU BK357.out)) : gb386 ≠ gb357)); replace BK357 := Aside0.mk (blk_below (g := gb357) (o := .cells #[.slice A1_0 l1_0.length c1_0, .slice A1_1 l1_1.length c1_1] 24 (0, 0)) (kU BK357.out) hb); have NB379_386 := Aside0.mk ((by rw [hg]; exact Nat.ne_of_lt (blk_lt (g := gb379) (o := .cells #[.slice Ao43 t372.length co43, .slice Ao45 t375.length co45] 26 (0, 0)) (kU BK379.out)) : gb379 ≠ gb386)); have NB386_379 := Aside0.mk ((by rw [hg]; exact Nat.ne_of_gt (blk_lt (g := gb379) (o := .cells #[.slice Ao43 t372.length co43, .slice Ao45 t375.length co45] 26 (0, 0)) (kU BK379.out)) : gb386 ≠ gb379)); replace BK379 := Aside0.mk (blk_below (g := gb379) (o := .cells #[.slice Ao43 t372.length co43, .slice Ao45 t375.length co45] 26 (0, 0)) (kU BK379.out) hb); clear hb hbox hg; obtain ⟨Ao51, co51, eo51⟩ := Kd.R_slice HO382.out; subst eo51; have hnb52 := NB386_356.out; have hnc52 := NB356_386.out; have hnb53 := NB386_357.out; have hnc53 := NB357_386.out; have hnb54 := NB386_379.out; have hnc54 := NB379_386.out; have hcz55_0 : w50.cell? ⟨gb386, 0, none⟩ = some (.slice none 0 0) := (blk_cell BK386.out 0).trans rfl; have hcz55_1 : w50.cell? ⟨gb386, 1, none⟩ = some (.slice none 0 0) := (blk_cell BK386.out 1).trans rfl; have hfz55_0 := blk_frozen BK386.out 0; have hfz55_1 := blk_frozen BK386.out 1; obtain ⟨Ao56, co56, eo56⟩ := Kd.R_slice HO385.out; subst eo56; have hnb57 := NB357_379.out; have hnc57 := NB379_357.out; have hcz58_0 : w50.cell? ⟨gb357, 0, none⟩ = some (.slice A1_0 l1_0.length c1_0) := (blk_cell BK357.out 0).trans rfl; have hcz58_1 : w50.cell? ⟨gb357, 1, none⟩ = some (.slice A1_1 l1_1.length c1_1) := (blk_cell BK357.out 1).trans rfl; have hfz58_0 := blk_frozen BK357.out 0; have hfz58_1 := blk_frozen BK357.out 1) | ((with_reducible refine gate_callee (f := 10) rfl ?_); refine goesL_ (some 38) rfl rfl Try.func10 (by kernel_rfl) rfl #[.agg #[.slice A1_0 l1_0.length c1_0, .slice A1_1 l1_1.length c1_1]] rfl (by (try simp only [List.map_toArray, List.map_cons, List.map_nil]); first | done | rfl | (simp only [List.length_drop, List.length_take]; rfl)) ?_; (with_reducible refine (laws_toArray.calls k _ _ l1_0 _ _ l1_1 t387 t390 _ ?side1 ?side2 ?side3 ?side4 A23.out).mono ?_); (case side1 => exact Kd.C_below HR1_0.out (bS4 HB.out GE356.out GE357.out GE379.out GE386.out)); (case side2 => exact HC1_0.out); (case side3 => exact Kd.C_below HR1_1.out (bS4 HB.out GE356.out GE357.out GE379.out GE386.out)); (case side4 => exact HC1_1.out); rintro e w59 ⟨v388, v391, rfl, ho0, ho1, hb⟩; refine ⟨_, rfl, ?_⟩; have HO389 := Aside0.mk (Kd.R_lower (Kd.R_new' (Kd.R_new' (Kd.R_new' (Kd.R_new' (Kd.R_new' (Kd.R_new' (Kd.R_new' (Kd.R_new' ho0 (Kd.R_lt (by (with_reducible repeat (first | apply Kd.R_alloc | apply Kd.R_drewN | apply Kd.R_drew)); exact (far2 HO362.out BK386.out)))) (Kd.R_lt (by (with_reducible repeat (first | apply Kd.R_alloc | apply Kd.R_drewN | apply Kd.R_drew)); exact (far2 HO365.out BK386.out)))) (Kd.R_lt (by (with_reducible repeat (first | apply Kd.R_alloc | apply Kd.R_drewN | apply Kd.R_drew)); exact (far2 HO368.out BK386.out)))) (Kd.R_lt (by (with_reducible repeat (first | apply Kd.R_alloc | apply Kd.R_drewN | apply Kd.R_drew)); exact (far2 HO371.out BK386.out)))) (Kd.R_lt (by (with_reducible repeat (first | apply Kd.R_alloc | apply Kd.R_drewN | apply Kd.R_drew)); exact (far2 HO374.out BK386.out)))) (Kd.R_lt (by (with_reducible repeat (first | apply Kd.R_alloc | apply Kd.R_drewN | apply Kd.R_drew)); exact (far2 HO377.out BK386.out)))) (Kd.R_lt (by (with_reducible repeat (first | apply Kd.R_alloc | apply Kd.R_drewN | apply Kd.R_drew)); exact (far2 HO382.out BK386.out)))) (Kd.R_lt (by (with_reducible repeat (first | apply Kd.R_alloc | apply Kd.R_drewN | apply Kd.R_drew)); exact (far2 HO385.out BK386.out)))) (below_size (bS4 HB.out GE356.out GE357.out GE379.out GE386.out))); have HO392 := Aside0.mk (Kd.R_lower (Kd.R_new' (Kd.R_new' (Kd.R_new' (Kd.R_new' (Kd.R_new' (Kd.R_new' (Kd.R_new' (Kd.R_new' ho1 (Kd.R_lt (by (with_reducible repeat (first | apply Kd.R_alloc | apply Kd.R_drewN | apply Kd.R_drew)); exact (far2 HO362.out BK386.out)))) (Kd.R_lt (by (with_reducible repeat (first | apply Kd.R_alloc | apply Kd.R_drewN | apply Kd.R_drew)); exact (far2 HO365.out BK386.out)))) (Kd.R_lt (by (with_reducible repeat (first | apply Kd.R_alloc | apply Kd.R_drewN | apply Kd.R_drew)); exact (far2 HO368.out BK386.out)))) (Kd.R_lt (by (with_reducible repeat (first | apply Kd.R_alloc | apply Kd.R_drewN | apply Kd.R_drew)); exact (far2 HO371.out BK386.out)))) (Kd.R_lt (by (with_reducible repeat (first | apply Kd.R_alloc | apply Kd.R_drewN | apply Kd.R_drew)); exact (far2 HO374.out BK386.out)))) (Kd.R_lt (by (with_reducible repeat (first | apply Kd.R_alloc | apply Kd.R_drewN | apply Kd.R_drew)); exact (far2 HO377.out BK386.out)))) (Kd.R_lt (by (with_reducible repeat (first | apply Kd.R_alloc | apply Kd.R_drewN | apply Kd.R_drew)); exact (far2 HO382.out BK386.out)))) (Kd.R_lt (by (with_reducible repeat (first | apply Kd.R_alloc | apply Kd.R_drewN | apply Kd.R_drew)); exact (far2 HO385.out BK386.out)))) (below_size (bS4 HB.out GE356.out GE357.out GE379.out GE386.out))); replace HO362 := Aside0.mk (Kd.R_mono (Kd.R_told (Kd.R_told (Kd.R_old (by (with_reducible repeat (first | apply Kd.R_alloc | apply Kd.R_drewN | apply Kd.R_drew)); exact (far2 HO362.out BK386.out)) hb) (Kd.R_base ho0)) (Kd.R_base ho1)) (fun _ h_ => h_.1)); replace HO365 := Aside0.mk (Kd.R_mono (Kd.R_told (Kd.R_told (Kd.R_old (by (with_reducible repeat (first | apply Kd.R_alloc | apply Kd.R_drewN | apply Kd.R_drew)); exact (far2 HO365.out BK386.out)) hb) (Kd.R_base ho0)) (Kd.R_base ho1)) (fun _ h_ => h_.1)); replace HO368 := Aside0.mk (Kd.R_mono (Kd.R_told (Kd.R_told (Kd.R_old (by (with_reducible repeat (first | apply Kd.R_alloc | apply Kd.R_drewN | apply Kd.R_drew)); exact (far2 HO368.out BK386.out)) hb) (Kd.R_base ho0)) (Kd.R_base ho1)) (fun _ h_ => h_.1)); replace HO371 := Aside0.mk (Kd.R_mono (Kd.R_told (Kd.R_told (Kd.R_old (by (with_reducible repeat (first | apply Kd.R_alloc | apply Kd.R_drewN | apply Kd.R_drew)); exact (far2 HO371.out BK386.out)) hb) (Kd.R_base ho0)) (Kd.R_base ho1)) (fun _ h_ => h_.1)); replace HO374 := Aside0.mk (Kd.R_mono (Kd.R_told (Kd.R_told (Kd.R_old (by (with_reducible repeat (first | apply Kd.R_alloc | apply Kd.R_drewN | apply Kd.R_drew)); exact (far2 HO374.out BK386.out)) hb) (Kd.R_base ho0)) (Kd.R_base ho1)) (fun _ h_ => h_.1)); replace HO377 := Aside0.mk (Kd.R_mono (Kd.R_told (Kd.R_told (Kd.R_old (by (with_reducible repeat (first | apply Kd.R_alloc | apply Kd.R_drewN | apply Kd.R_drew)); exact (far2 HO377.out BK386.out)) hb) (Kd.R_base ho0)) (Kd.R_base ho1)) (fun _ h_ => h_.1)); replace HO382 := Aside0.mk (Kd.R_mono (Kd.R_told (Kd.R_told (Kd.R_old (by (with_reducible repeat (first | apply Kd.R_alloc | apply Kd.R_drewN | apply Kd.R_drew)); exact (far2 HO382.out BK386.out)) hb) (Kd.R_base ho0)) (Kd.R_base ho1)) (fun _ h_ => h_.1)); replace HO385 := Aside0.mk (Kd.R_mono (Kd.R_told (Kd.R_told (Kd.R_old (by (with_reducible repeat (first | apply Kd.R_alloc | apply Kd.R_drewN | apply Kd.R_drew)); exact (far2 HO385.out BK386.out)) hb) (Kd.R_base ho0)) (Kd.R_base ho1)) (fun _ h_ => h_.1)); replace BK356 := Aside0.mk (blk_below (g := gb356) (o := .cells #[.slice A0_0 l0_0.length c0_0, .slice A0_1 l0_1.length c0_1] 24 (0, 0)) (by (with_reducible repeat (first | refine blk_drewN ?_ _ | refine blk_drew ?_ | refine blk_alloc ?_ _)); refine blk_far ?_ NB356_386.out _; (with_reducible repeat (first | refine blk_drewN ?_ _ | refine blk_drew ?_ | refine blk_alloc ?_ _)); refine blk_far ?_ NB356_386.out _; (with_reducible repeat (first | refine blk_drewN ?_ _ | refine blk_drew ?_ | refine blk_alloc ?_ _)); exact BK356.out) hb); replace BK357 := Aside0.mk (blk_below (g := gb357) (o := .cells #[.slice A1_0 l1_0.length c1_0, .slice A1_1 l1_1.length c1_1] 24 (0, 0)) (by (with_reducible repeat (first | refine blk_drewN ?_ _ | refine blk_drew ?_ | refine blk_alloc ?_ _)); refine blk_far ?_ NB357_386.out _; (with_reducible repeat (first | refine blk_drewN ?_ _ | refine blk_drew ?_ | refine blk_alloc ?_ _)); refine blk_far ?_ NB357_386.out _; (with_reducible repeat (first | refine blk_drewN ?_ _ | refine blk_drew ?_ | refine blk_alloc ?_ _)); exact BK357.out) hb); replace BK379 := Aside0.mk (blk_below (g := gb379) (o := .cells #[.slice Ao43 t372.length co43, .slice Ao45 t375.length co45] 26 (0, 0)) (by (with_reducible repeat (first | refine blk_drewN ?_ _ | refine blk_drew ?_ | refine blk_alloc ?_ _)); refine blk_far ?_ NB379_386.out _; (with_reducible repeat (first | refine blk_drewN ?_ _ | refine blk_drew ?_ | refine blk_alloc ?_ _)); refine blk_far ?_ NB379_386.out _; (with_reducible repeat (first | refine blk_drewN ?_ _ | refine blk_drew ?_ | refine blk_alloc ?_ _)); exact BK379.out) hb); replace BK386 := Aside0.mk (blk_below (g := gb386) (o := .cells #[.slice Ao51 t380.length co51, .slice Ao56 t383.length co56] 26 (0, 0)) (by (with_reducible repeat (first | refine blk_drewN ?_ _ | refine blk_drew ?_ | refine blk_alloc ?_ _)); refine blk_put (cs := #[.slice Ao51 t380.length co51, .slice none 0 0]) ?_ 1 _ rfl; (with_reducible repeat (first | refine blk_drewN ?_ _ | refine blk_drew ?_ | refine blk_alloc ?_ _)); refine blk_put (cs := #[.slice none 0 0, .slice none 0 0]) ?_ 0 _ rfl; (with_reducible repeat (first | refine blk_drewN ?_ _ | refine blk_drew ?_ | refine blk_alloc ?_ _)); exact BK386.out) hb); replace HB := Aside0.mk (below_step (bS4 HB.out GE356.out GE357.out GE379.out GE386.out) hb); (try clear hb); (try clear hb2); (try clear hk); (try clear hi); (try clear ho0); (try clear ho1)) | ((with_reducible refine gate_dst (N := 9) rfl ?_); refine box_event ?hg (N := 9) ?hd (cs := #[.slice none 0 0, .slice none 0 0]) (t := 26) ?hr ?_; (case hd => rfl); (case hg => rfl); (case hr => first | (go_simp; done) | (go_simp; rfl)); intro gb393 hg w60 hbox hb; replace HO362 := Aside0.mk (Kd.R_below (RU HO362.out) hb); replace HO365 := Aside0.mk (Kd.R_below (RU HO365.out) hb); replace HO368 := Aside0.mk (Kd.R_below (RU HO368.out) hb); replace HO371 := Aside0.mk (Kd.R_below (RU HO371.out) hb); replace HO374 := Aside0.mk (Kd.R_below (RU HO374.out) hb); replace HO377 := Aside0.mk (Kd.R_below (RU HO377.out) hb); replace HO382 := Aside0.mk (Kd.R_below (RU HO382.out) hb); replace HO385 := Aside0.mk (Kd.R_below (RU HO385.out) hb); replace HO389 := Aside0.mk (Kd.R_below (RU HO389.out) hb); replace HO392 := Aside0.mk (Kd.R_below (RU HO392.out) hb); have BK393 := Aside0.mk (hbox); have GW393 := Aside0.mk ((by rw [hg]; exact (below_size (bS4 HB.out GE356.out GE357.out GE379.out GE386.out)) : w.heap.size ≤ gb393)); have GE393 := Aside0.mk ((by rw [hg]; exact (below_size (bS4 HB.out GE356.out GE357.out GE379.out GE386.out)) : w.heap.size ≤ gb393)); replace HB := Aside0.mk (below_step (bS4 HB.out GE356.out GE357.out GE379.out GE386.out) hb); have NB356_393 := Aside0.mk ((by rw [hg]; exact Nat.ne_of_lt (blk_lt (g := gb356) (o := .cells #[.slice A0_0 l0_0.length c0_0, .slice A0_1 l0_1.length c0_1] 24 (0, 0)) (kU BK356.out)) : gb356 ≠ gb393)); have NB393_356 := Aside0.mk ((by rw [hg]; exact Nat.ne_of_gt (blk_lt (g := gb356) (o := .cells #[.slice A0_0 l0_0.length c0_0, .slice A0_1 l0_1.length c0_1] 24 (0, 0)) (kU BK356.out)) : gb393 ≠ gb356)); replace BK356 := Aside0.mk (blk_below (g := gb356) (o := .cells #[.slice A0_0 l0_0.length c0_0, .slice A0_1 l0_1.length c0_1] 24 (0, 0)) (kU BK356.out) hb); have NB357_393 := Aside0.mk ((by rw [hg]; exact Nat.ne_of_lt (blk_lt (g := gb357) (o := .cells #[.slice A1_0 l1_0.length c1_0, .slice A1_1 l1_1.length c1_1] 24 (0, 0)) (kU BK357.out)) : gb357 ≠ gb393)); have NB393_357 := Aside0.mk ((by rw [hg]; exact Nat.ne_of_gt (blk_lt (g := gb357) (o := .cells #[.slice A1_0 l1_0.length c1_0, .slice A1_1 l1_1.length c1_1] 24 (0, 0)) (kU BK357.out)) : gb393 ≠ gb357)); replace BK357 := Aside0.mk (blk_below (g := gb357) (o := .cells #[.slice A1_0 l1_0.length c1_0, .slice A1_1 l1_1.length c1_1] 24 (0, 0)) (kU BK357.out) hb); have NB379_393 := Aside0.mk ((by rw [hg]; exact Nat.ne_of_lt (blk_lt (g := gb379) (o := .cells #[.slice Ao43 t372.length co43, .slice Ao45 t375.length co45] 26 (0, 0)) (kU BK379.out)) : gb379 ≠ gb393)); have NB393_379 := Aside0.mk ((by rw [hg]; exact Nat.ne_of_gt (blk_lt (g := gb379) (o := .cells #[.slice Ao43 t372.length co43, .slice Ao45 t375.length co45] 26 (0, 0)) (kU BK379.out)) : gb393 ≠ gb379)); replace BK379 := Aside0.mk (blk_below (g := gb379) (o := .cells #[.slice Ao43 t372.length co43, .slice Ao45 t375.length co45] 26 (0, 0)) (kU BK379.out) hb); have NB386_393 := Aside0.mk ((by rw [hg]; exact Nat.ne_of_lt (blk_lt (g := gb386) (o := .cells #[.slice Ao51 t380.length co51, .slice Ao56 t383.length co56] 26 (0, 0)) (kU BK386.out)) : gb386 ≠ gb393)); have NB393_386 := Aside0.mk ((by rw [hg]; exact Nat.ne_of_gt (blk_lt (g := gb386) (o := .cells #[.slice Ao51 t380.length co51, .slice Ao56 t383.length co56] 26 (0, 0)) (kU BK386.out)) : gb393 ≠ gb386)); replace BK386 := Aside0.mk (blk_below (g := gb386) (o := .cells #[.slice Ao51 t380.length co51, .slice Ao56 t383.length co56] 26 (0, 0)) (kU BK386.out) hb); clear hb hbox hg; obtain ⟨Ao61, co61, eo61⟩ := Kd.R_slice HO389.out; subst eo61; have hnb62 := NB393_356.out; have hnc62 := NB356_393.out; have hnb63 := NB393_357.out; have hnc63 := NB357_393.out; have hnb64 := NB393_379.out; have hnc64 := NB379_393.out; have hnb65 := NB393_386.out; have hnc65 := NB386_393.out; have hcz66_0 : w60.cell? ⟨gb393, 0, none⟩ = some (.slice none 0 0) := (blk_cell BK393.out 0).trans rfl; have hcz66_1 : w60.cell? ⟨gb393, 1, none⟩ = some (.slice none 0 0) := (blk_cell BK393.out 1).trans rfl; have hfz66_0 := blk_frozen BK393.out 0; have hfz66_1 := blk_frozen BK393.out 1; obtain ⟨Ao67, co67, eo67⟩ := Kd.R_slice HO392.out; subst eo67; have hcz68_0 : w60.cell? ⟨gb386, 0, none⟩ = some (.slice Ao51 t380.length co51) := (blk_cell BK386.out 0).trans rfl; have hcz68_1 : w60.cell? ⟨gb386, 1, none⟩ = some (.slice Ao56 t383.length co56) := (blk_cell BK386.out 1).trans rfl; have hfz68_0 := blk_frozen BK386.out 0; have hfz68_1 := blk_frozen BK386.out 1) | ((with_reducible refine gate_callee (f := 11) rfl ?_); refine goesL_ (some 42) rfl rfl Try.func11 (by kernel_rfl) rfl #[.agg #[.slice Ao51 t380.length co51, .slice Ao56 t383.length co56], .agg #[.slice Ao61 t387.length co61, .slice Ao67 t390.length co67]] rfl (by (try simp only [List.map_toArray, List.map_cons, List.map_nil]); first | done | rfl | (simp only [List.length_drop, List.length_take]; rfl)) ?_; (with_reducible refine (impl_Drop.calls k _ _ t380 _ _ t383 _ _ t387 _ _ t390 t394 t397 t400 _ ?side1 ?side2 ?side3 ?side4 ?side5 ?side6 ?side7 ?side8 A24.out).mono ?_); (case side1 => refine (Kd.R_reads' (e := 3) (base := w.heap.size) (ok := fun k_ => ((((((((some k_ ≠ (.slice Ao56 t383.length co56 : Value).ownBlock ∧ some k_ ≠ (v361 : Value).ownBlock) ∧ some k_ ≠ (v364 : Value).ownBlock) ∧ some k_ ≠ (v367 : Value).ownBlock) ∧ some k_ ≠ (v370 : Value).ownBlock) ∧ some k_ ≠ (.slice Ao43 t372.length co43 : Value).ownBlock) ∧ some k_ ≠ (.slice Ao45 t375.length co45 : Value).ownBlock) ∧ some k_ ≠ (.slice Ao61 t387.length co61 : Value).ownBlock) ∧ some k_ ≠ (.slice Ao67 t390.length co67 : Value).ownBlock)) (n := t380.length) (c := co51) ?_).2.2; exact (by (with_reducible repeat (first | apply Kd.R_alloc | apply Kd.R_drewN | apply Kd.R_drew)); exact (far2 HO382.out BK393.out))); (case side2 => exact (Kd.R_reads' HO382.out).2.1); (case side3 => refine (Kd.R_reads' (e := 3) (base := w.heap.size) (ok := fun k_ => ((((((((some k_ ≠ (.slice Ao51 t380.length co51 : Value).ownBlock ∧ some k_ ≠ (v361 : Value).ownBlock) ∧ some k_ ≠ (v364 : Value).ownBlock) ∧ some k_ ≠ (v367 : Value).ownBlock) ∧ some k_ ≠ (v370 : Value).ownBlock) ∧ some k_ ≠ (.slice Ao43 t372.length co43 : Value).ownBlock) ∧ some k_ ≠ (.slice Ao45 t375.length co45 : Value).ownBlock) ∧ some k_ ≠ (.slice Ao61 t387.length co61 : Value).ownBlock) ∧ some k_ ≠ (.slice Ao67 t390.length co67 : Value).ownBlock)) (n := t383.length) (c := co56) ?_).2.2; exact (by (with_reducible repeat (first | apply Kd.R_alloc | apply Kd.R_drewN | apply Kd.R_drew)); exact (far2 HO385.out BK393.out))); (case side4 => exact (Kd.R_reads' HO385.out).2.1); (case side5 => refine (Kd.R_reads' (e := 3) (base := w.heap.size) (ok := fun k_ => ((((((((some k_ ≠ (.slice Ao67 t390.length co67 : Value).ownBlock ∧ some k_ ≠ (v361 : Value).ownBlock) ∧ some k_ ≠ (v364 : Value).ownBlock) ∧ some k_ ≠ (v367 : Value).ownBlock) ∧ some k_ ≠ (v370 : Value).ownBlock) ∧ some k_ ≠ (.slice Ao43 t372.length co43 : Value).ownBlock) ∧ some k_ ≠ (.slice Ao45 t375.length co45 : Value).ownBlock) ∧ some k_ ≠ (.slice Ao51 t380.length co51 : Value).ownBlock) ∧ some k_ ≠ (.slice Ao56 t383.length co56 : Value).ownBlock)) (n := t387.length) (c := co61) ?_).2.2; exact (by (with_reducible repeat (first | apply Kd.R_alloc | apply Kd.R_drewN | apply Kd.R_drew)); exact (far2 HO389.out BK393.out))); (case side6 => exact (Kd.R_reads' HO389.out).2.1); (case side7 => refine (Kd.R_reads' (e := 3) (base := w.heap.size) (ok := fun k_ => ((((((((some k_ ≠ (.slice Ao61 t387.length co61 : Value).ownBlock ∧ some k_ ≠ (v361 : Value).ownBlock) ∧ some k_ ≠ (v364 : Value).ownBlock) ∧ some k_ ≠ (v367 : Value).ownBlock) ∧ some k_ ≠ (v370 : Value).ownBlock) ∧ some k_ ≠ (.slice Ao43 t372.length co43 : Value).ownBlock) ∧ some k_ ≠ (.slice Ao45 t375.length co45 : Value).ownBlock) ∧ some k_ ≠ (.slice Ao51 t380.length co51 : Value).ownBlock) ∧ some k_ ≠ (.slice Ao56 t383.length co56 : Value).ownBlock)) (n := t390.length) (c := co67) ?_).2.2; exact (by (with_reducible repeat (first | apply Kd.R_alloc | apply Kd.R_drewN | apply Kd.R_drew)); exact (far2 HO392.out BK393.out))); (case side8 => exact (Kd.R_reads' HO392.out).2.1); rintro e w69 ⟨v395, v398, rfl, ho0, ho1, hb⟩; refine ⟨_, rfl, ?_⟩; have HO396 := Aside0.mk (Kd.R_lower (Kd.R_new' (Kd.R_new' (Kd.R_new' (Kd.R_new' (Kd.R_new' (Kd.R_new' (Kd.R_new' (Kd.R_new' (Kd.R_new' (Kd.R_new' ho0 (Kd.R_lt (by (with_reducible repeat (first | apply Kd.R_alloc | apply Kd.R_drewN | apply Kd.R_drew)); exact (far2 HO362.out BK393.out)))) (Kd.R_lt (by (with_reducible repeat (first | apply Kd.R_alloc | apply Kd.R_drewN | apply Kd.R_drew)); exact (far2 HO365.out BK393.out)))) (Kd.R_lt (by (with_reducible repeat (first | apply Kd.R_alloc | apply Kd.R_drewN | apply Kd.R_drew)); exact (far2 HO368.out BK393.out)))) (Kd.R_lt (by (with_reducible repeat (first | apply Kd.R_alloc | apply Kd.R_drewN | apply Kd.R_drew)); exact (far2 HO371.out BK393.out)))) (Kd.R_lt (by (with_reducible repeat (first | apply Kd.R_alloc | apply Kd.R_drewN | apply Kd.R_drew)); exact (far2 HO374.out BK393.out)))) (Kd.R_lt (by (with_reducible repeat (first | apply Kd.R_alloc | apply Kd.R_drewN | apply Kd.R_drew)); exact (far2 HO377.out BK393.out)))) (Kd.R_lt (by (with_reducible repeat (first | apply Kd.R_alloc | apply Kd.R_drewN | apply Kd.R_drew)); exact (far2 HO382.out BK393.out)))) (Kd.R_lt (by (with_reducible repeat (first | apply Kd.R_alloc | apply Kd.R_drewN | apply Kd.R_drew)); exact (far2 HO385.out BK393.out)))) (Kd.R_lt (by (with_reducible repeat (first | apply Kd.R_alloc | apply Kd.R_drewN | apply Kd.R_drew)); exact (far2 HO389.out BK393.out)))) (Kd.R_lt (by (with_reducible repeat (first | apply Kd.R_alloc | apply Kd.R_drewN | apply Kd.R_drew)); exact (far2 HO392.out BK393.out)))) (below_size (by repeat (first | (with_reducible first | exact HB.out | apply below_alloc | apply pw_below_drewN | apply below_drew1 | refine below_set ?_ GE356.out | refine below_set ?_ GE357.out | refine below_set ?_ GE379.out | refine below_set ?_ GE386.out | refine below_set ?_ GE393.out) | exact HB.out)))); have HO399 := Aside0.mk (Kd.R_lower (Kd.R_new' (Kd.R_new' (Kd.R_new' (Kd.R_new' (Kd.R_new' (Kd.R_new' (Kd.R_new' (Kd.R_new' (Kd.R_new' (Kd.R_new' ho1 (Kd.R_lt (by (with_reducible repeat (first | apply Kd.R_alloc | apply Kd.R_drewN | apply Kd.R_drew)); exact (far2 HO362.out BK393.out)))) (Kd.R_lt (by (with_reducible repeat (first | apply Kd.R_alloc | apply Kd.R_drewN | apply Kd.R_drew)); exact (far2 HO365.out BK393.out)))) (Kd.R_lt (by (with_reducible repeat (first | apply Kd.R_alloc | apply Kd.R_drewN | apply Kd.R_drew)); exact (far2 HO368.out BK393.out)))) (Kd.R_lt (by (with_reducible repeat (first | apply Kd.R_alloc | apply Kd.R_drewN | apply Kd.R_drew)); exact (far2 HO371.out BK393.out)))) (Kd.R_lt (by (with_reducible repeat (first | apply Kd.R_alloc | apply Kd.R_drewN | apply Kd.R_drew)); exact (far2 HO374.out BK393.out)))) (Kd.R_lt (by (with_reducible repeat (first | apply Kd.R_alloc | apply Kd.R_drewN | apply Kd.R_drew)); exact (far2 HO377.out BK393.out)))) (Kd.R_lt (by (with_reducible repeat (first | apply Kd.R_alloc | apply Kd.R_drewN | apply Kd.R_drew)); exact (far2 HO382.out BK393.out)))) (Kd.R_lt (by (with_reducible repeat (first | apply Kd.R_alloc | apply Kd.R_drewN | apply Kd.R_drew)); exact (far2 HO385.out BK393.out)))) (Kd.R_lt (by (with_reducible repeat (first | apply Kd.R_alloc | apply Kd.R_drewN | apply Kd.R_drew)); exact (far2 HO389.out BK393.out)))) (Kd.R_lt (by (with_reducible repeat (first | apply Kd.R_alloc | apply Kd.R_drewN | apply Kd.R_drew)); exact (far2 HO392.out BK393.out)))) (below_size (by repeat (first | (with_reducible first | exact HB.out | apply below_alloc | apply pw_below_drewN | apply below_drew1 | refine below_set ?_ GE356.out | refine below_set ?_ GE357.out | refine below_set ?_ GE379.out | refine below_set ?_ GE386.out | refine below_set ?_ GE393.out) | exact HB.out)))); replace HO362 := Aside0.mk (Kd.R_mono (Kd.R_told (Kd.R_told (Kd.R_old (by (with_reducible repeat (first | apply Kd.R_alloc | apply Kd.R_drewN | apply Kd.R_drew)); exact (far2 HO362.out BK393.out)) hb) (Kd.R_base ho0)) (Kd.R_base ho1)) (fun _ h_ => h_.1)); replace HO365 := Aside0.mk (Kd.R_mono (Kd.R_told (Kd.R_told (Kd.R_old (by (with_reducible repeat (first | apply Kd.R_alloc | apply Kd.R_drewN | apply Kd.R_drew)); exact (far2 HO365.out BK393.out)) hb) (Kd.R_base ho0)) (Kd.R_base ho1)) (fun _ h_ => h_.1)); replace HO368 := Aside0.mk (Kd.R_mono (Kd.R_told (Kd.R_told (Kd.R_old (by (with_reducible repeat (first | apply Kd.R_alloc | apply Kd.R_drewN | apply Kd.R_drew)); exact (far2 HO368.out BK393.out)) hb) (Kd.R_base ho0)) (Kd.R_base ho1)) (fun _ h_ => h_.1)); replace HO371 := Aside0.mk (Kd.R_mono (Kd.R_told (Kd.R_told (Kd.R_old (by (with_reducible repeat (first | apply Kd.R_alloc | apply Kd.R_drewN | apply Kd.R_drew)); exact (far2 HO371.out BK393.out)) hb) (Kd.R_base ho0)) (Kd.R_base ho1)) (fun _ h_ => h_.1)); replace HO374 := Aside0.mk (Kd.R_mono (Kd.R_told (Kd.R_told (Kd.R_old (by (with_reducible repeat (first | apply Kd.R_alloc | apply Kd.R_drewN | apply Kd.R_drew)); exact (far2 HO374.out BK393.out)) hb) (Kd.R_base ho0)) (Kd.R_base ho1)) (fun _ h_ => h_.1)); replace HO377 := Aside0.mk (Kd.R_mono (Kd.R_told (Kd.R_told (Kd.R_old (by (with_reducible repeat (first | apply Kd.R_alloc | apply Kd.R_drewN | apply Kd.R_drew)); exact (far2 HO377.out BK393.out)) hb) (Kd.R_base ho0)) (Kd.R_base ho1)) (fun _ h_ => h_.1)); replace HO382 := Aside0.mk (Kd.R_mono (Kd.R_told (Kd.R_told (Kd.R_old (by (with_reducible repeat (first | apply Kd.R_alloc | apply Kd.R_drewN | apply Kd.R_drew)); exact (far2 HO382.out BK393.out)) hb) (Kd.R_base ho0)) (Kd.R_base ho1)) (fun _ h_ => h_.1)); replace HO385 := Aside0.mk (Kd.R_mono (Kd.R_told (Kd.R_told (Kd.R_old (by (with_reducible repeat (first | apply Kd.R_alloc | apply Kd.R_drewN | apply Kd.R_drew)); exact (far2 HO385.out BK393.out)) hb) (Kd.R_base ho0)) (Kd.R_base ho1)) (fun _ h_ => h_.1)); replace HO389 := Aside0.mk (Kd.R_mono (Kd.R_told (Kd.R_told (Kd.R_old (by (with_reducible repeat (first | apply Kd.R_alloc | apply Kd.R_drewN | apply Kd.R_drew)); exact (far2 HO389.out BK393.out)) hb) (Kd.R_base ho0)) (Kd.R_base ho1)) (fun _ h_ => h_.1)); replace HO392 := Aside0.mk (Kd.R_mono (Kd.R_told (Kd.R_told (Kd.R_old (by (with_reducible repeat (first | apply Kd.R_alloc | apply Kd.R_drewN | apply Kd.R_drew)); exact (far2 HO392.out BK393.out)) hb) (Kd.R_base ho0)) (Kd.R_base ho1)) (fun _ h_ => h_.1)); replace BK356 := Aside0.mk (blk_below (g := gb356) (o := .cells #[.slice A0_0 l0_0.length c0_0, .slice A0_1 l0_1.length c0_1] 24 (0, 0)) (by (with_reducible repeat (first | refine blk_drewN ?_ _ | refine blk_drew ?_ | refine blk_alloc ?_ _)); refine blk_far ?_ NB356_393.out _; (with_reducible repeat (first | refine blk_drewN ?_ _ | refine blk_drew ?_ | refine blk_alloc ?_ _)); refine blk_far ?_ NB356_393.out _; (with_reducible repeat (first | refine blk_drewN ?_ _ | refine blk_drew ?_ | refine blk_alloc ?_ _)); exact BK356.out) hb); replace BK357 := Aside0.mk (blk_below (g := gb357) (o := .cells #[.slice A1_0 l1_0.length c1_0, .slice A1_1 l1_1.length c1_1] 24 (0, 0)) (by (with_reducible repeat (first | refine blk_drewN ?_ _ | refine blk_drew ?_ | refine blk_alloc ?_ _)); refine blk_far ?_ NB357_393.out _; (with_reducible repeat (first | refine blk_drewN ?_ _ | refine blk_drew ?_ | refine blk_alloc ?_ _)); refine blk_far ?_ NB357_393.out _; (with_reducible repeat (first | refine blk_drewN ?_ _ | refine blk_drew ?_ | refine blk_alloc ?_ _)); exact BK357.out) hb); replace BK379 := Aside0.mk (blk_below (g := gb379) (o := .cells #[.slice Ao43 t372.length co43, .slice Ao45 t375.length co45] 26 (0, 0)) (by (with_reducible repeat (first | refine blk_drewN ?_ _ | refine blk_drew ?_ | refine blk_alloc ?_ _)); refine blk_far ?_ NB379_393.out _; (with_reducible repeat (first | refine blk_drewN ?_ _ | refine blk_drew ?_ | refine blk_alloc ?_ _)); refine blk_far ?_ NB379_393.out _; (with_reducible repeat (first | refine blk_drewN ?_ _ | refine blk_drew ?_ | refine blk_alloc ?_ _)); exact BK379.out) hb); replace BK386 := Aside0.mk (blk_below (g := gb386) (o := .cells #[.slice Ao51 t380.length co51, .slice Ao56 t383.length co56] 26 (0, 0)) (by (with_reducible repeat (first | refine blk_drewN ?_ _ | refine blk_drew ?_ | refine blk_alloc ?_ _)); refine blk_far ?_ NB386_393.out _; (with_reducible repeat (first | refine blk_drewN ?_ _ | refine blk_drew ?_ | refine blk_alloc ?_ _)); refine blk_far ?_ NB386_393.out _; (with_reducible repeat (first | refine blk_drewN ?_ _ | refine blk_drew ?_ | refine blk_alloc ?_ _)); exact BK386.out) hb); replace BK393 := Aside0.mk (blk_below (g := gb393) (o := .cells #[.slice Ao61 t387.length co61, .slice Ao67 t390.length co67] 26 (0, 0)) (by (with_reducible repeat (first | refine blk_drewN ?_ _ | refine blk_drew ?_ | refine blk_alloc ?_ _)); refine blk_put (cs := #[.slice Ao61 t387.length co61, .slice none 0 0]) ?_ 1 _ rfl; (with_reducible repeat (first | refine blk_drewN ?_ _ | refine blk_drew ?_ | refine blk_alloc ?_ _)); refine blk_put (cs := #[.slice none 0 0, .slice none 0 0]) ?_ 0 _ rfl; (with_reducible repeat (first | refine blk_drewN ?_ _ | refine blk_drew ?_ | refine blk_alloc ?_ _)); exact BK393.out) hb); replace HB := Aside0.mk (below_step (by repeat (first | (with_reducible first | exact HB.out | apply below_alloc | apply pw_below_drewN | apply below_drew1 | refine below_set ?_ GE356.out | refine below_set ?_ GE357.out | refine below_set ?_ GE379.out | refine below_set ?_ GE386.out | refine below_set ?_ GE393.out) | exact HB.out)) hb); (try clear hb); (try clear hb2); (try clear hk); (try clear hi); (try clear ho0); (try clear ho1)) | ((with_reducible refine gate_dst (N := 10) rfl ?_); refine box_event ?hg (N := 10) ?hd (cs := #[.slice none 0 0, .slice none 0 0]) (t := 26) ?hr ?_; (case hd => rfl); (case hg => rfl); (case hr => first | (go_simp; done) | (go_simp; rfl)); intro gb401 hg w70 hbox hb; replace HO362 := Aside0.mk (Kd.R_below (RU HO362.out) hb); replace HO365 := Aside0.mk (Kd.R_below (RU HO365.out) hb); replace HO368 := Aside0.mk (Kd.R_below (RU HO368.out) hb); replace HO371 := Aside0.mk (Kd.R_below (RU HO371.out) hb); replace HO374 := Aside0.mk (Kd.R_below (RU HO374.out) hb); replace HO377 := Aside0.mk (Kd.R_below (RU HO377.out) hb); replace HO382 := Aside0.mk (Kd.R_below (RU HO382.out) hb); replace HO385 := Aside0.mk (Kd.R_below (RU HO385.out) hb); replace HO389 := Aside0.mk (Kd.R_below (RU HO389.out) hb); replace HO392 := Aside0.mk (Kd.R_below (RU HO392.out) hb); replace HO396 := Aside0.mk (Kd.R_below (RU HO396.out) hb); replace HO399 := Aside0.mk (Kd.R_below (RU HO399.out) hb); have BK401 := Aside0.mk (hbox); have GW401 := Aside0.mk ((by rw [hg]; exact (below_size (by repeat (first | (with_reducible first | exact HB.out | apply below_alloc | apply pw_below_drewN | apply below_drew1 | refine below_set ?_ GE356.out | refine below_set ?_ GE357.out | refine below_set ?_ GE379.out | refine below_set ?_ GE386.out | refine below_set ?_ GE393.out) | exact HB.out))) : w.heap.size ≤ gb401)); have GE401 := Aside0.mk ((by rw [hg]; exact (below_size (by repeat (first | (with_reducible first | exact HB.out | apply below_alloc | apply pw_below_drewN | apply below_drew1 | refine below_set ?_ GE356.out | refine below_set ?_ GE357.out | refine below_set ?_ GE379.out | refine below_set ?_ GE386.out | refine below_set ?_ GE393.out) | exact HB.out))) : w.heap.size ≤ gb401)); replace HB := Aside0.mk (below_step (by repeat (first | (with_reducible first | exact HB.out | apply below_alloc | apply pw_below_drewN | apply below_drew1 | refine below_set ?_ GE356.out | refine below_set ?_ GE357.out | refine below_set ?_ GE379.out | refine below_set ?_ GE386.out | refine below_set ?_ GE393.out) | exact HB.out)) hb); have NB356_401 := Aside0.mk ((by rw [hg]; exact Nat.ne_of_lt (blk_lt (g := gb356) (o := .cells #[.slice A0_0 l0_0.length c0_0, .slice A0_1 l0_1.length c0_1] 24 (0, 0)) (kU BK356.out)) : gb356 ≠ gb401)); have NB401_356 := Aside0.mk ((by rw [hg]; exact Nat.ne_of_gt (blk_lt (g := gb356) (o := .cells #[.slice A0_0 l0_0.length c0_0, .slice A0_1 l0_1.length c0_1] 24 (0, 0)) (kU BK356.out)) : gb401 ≠ gb356)); replace BK356 := Aside0.mk (blk_below (g := gb356) (o := .cells #[.slice A0_0 l0_0.length c0_0, .slice A0_1 l0_1.length c0_1] 24 (0, 0)) (kU BK356.out) hb); have NB357_401 := Aside0.mk ((by rw [hg]; exact Nat.ne_of_lt (blk_lt (g := gb357) (o := .cells #[.slice A1_0 l1_0.length c1_0, .slice A1_1 l1_1.length c1_1] 24 (0, 0)) (kU BK357.out)) : gb357 ≠ gb401)); have NB401_357 := Aside0.mk ((by rw [hg]; exact Nat.ne_of_gt (blk_lt (g := gb357) (o := .cells #[.slice A1_0 l1_0.length c1_0, .slice A1_1 l1_1.length c1_1] 24 (0, 0)) (kU BK357.out)) : gb401 ≠ gb357)); replace BK357 := Aside0.mk (blk_below (g := gb357) (o := .cells #[.slice A1_0 l1_0.length c1_0, .slice A1_1 l1_1.length c1_1] 24 (0, 0)) (kU BK357.out) hb); have NB379_401 := Aside0.mk ((by rw [hg]; exact Nat.ne_of_lt (blk_lt (g := gb379) (o := .cells #[.slice Ao43 t372.length co43, .slice Ao45 t375.length co45] 26 (0, 0)) (kU BK379.out)) : gb379 ≠ gb401)); have NB401_379 := Aside0.mk ((by rw [hg]; exact Nat.ne_of_gt (blk_lt (g := gb379) (o := .cells #[.slice Ao43 t372.length co43, .slice Ao45 t375.length co45] 26 (0, 0)) (kU BK379.out)) : gb401 ≠ gb379)); replace BK379 := Aside0.mk (blk_below (g := gb379) (o := .cells #[.slice Ao43 t372.length co43, .slice Ao45 t375.length co45] 26 (0, 0)) (kU BK379.out) hb); have NB386_401 := Aside0.mk ((by rw [hg]; exact Nat.ne_of_lt (blk_lt (g := gb386) (o := .cells #[.slice Ao51 t380.length co51, .slice Ao56 t383.length co56] 26 (0, 0)) (kU BK386.out)) : gb386 ≠ gb401)); have NB401_386 := Aside0.mk ((by rw [hg]; exact Nat.ne_of_gt (blk_lt (g := gb386) (o := .cells #[.slice Ao51 t380.length co51, .slice Ao56 t383.length co56] 26 (0, 0)) (kU BK386.out)) : gb401 ≠ gb386)); replace BK386 := Aside0.mk (blk_below (g := gb386) (o := .cells #[.slice Ao51 t380.length co51, .slice Ao56 t383.length co56] 26 (0, 0)) (kU BK386.out) hb); have NB393_401 := Aside0.mk ((by rw [hg]; exact Nat.ne_of_lt (blk_lt (g := gb393) (o := .cells #[.slice Ao61 t387.length co61, .slice Ao67 t390.length co67] 26 (0, 0)) (kU BK393.out)) : gb393 ≠ gb401)); have NB401_393 := Aside0.mk ((by rw [hg]; exact Nat.ne_of_gt (blk_lt (g := gb393) (o := .cells #[.slice Ao61 t387.length co61, .slice Ao67 t390.length co67] 26 (0, 0)) (kU BK393.out)) : gb401 ≠ gb393)); replace BK393 := Aside0.mk (blk_below (g := gb393) (o := .cells #[.slice Ao61 t387.length co61, .slice Ao67 t390.length co67] 26 (0, 0)) (kU BK393.out) hb); clear hb hbox hg; obtain ⟨Ao71, co71, eo71⟩ := Kd.R_slice HO396.out; subst eo71; have hnb72 := NB401_356.out; have hnc72 := NB356_401.out; have hnb73 := NB401_357.out; have hnc73 := NB357_401.out; have hnb74 := NB401_379.out; have hnc74 := NB379_401.out; have hnb75 := NB401_386.out; have hnc75 := NB386_401.out; have hnb76 := NB401_393.out; have hnc76 := NB393_401.out; have hcz77_0 : w70.cell? ⟨gb401, 0, none⟩ = some (.slice none 0 0) := (blk_cell BK401.out 0).trans rfl; have hcz77_1 : w70.cell? ⟨gb401, 1, none⟩ = some (.slice none 0 0) := (blk_cell BK401.out 1).trans rfl; have hfz77_0 := blk_frozen BK401.out 0; have hfz77_1 := blk_frozen BK401.out 1; obtain ⟨Ao78, co78, eo78⟩ := Kd.R_slice HO399.out; subst eo78))
   (try simp only [Act.put, List.setIfInBounds_toArray, List.set_cons_zero, List.set_cons_succ])
   go_cut [53] (fun v53 wc => ∃ (kq : Nat) (x53_24 : Bool), v53 = .bool x53_24 ∧ Aside0 (laws_FnExactDrop.j0 kq t378 t400 x53_24 l0_0 l0_1 l1_0 l1_1 t372 t375 t380 t383 t387 t390 t394 t397 = some r) ∧ Aside0 (kq ≤ k) ∧ Aside0 (Kd.R (Kd.int .i64) 3 wc w.heap.size (fun k_ => some k_ ≠ ((.slice Ao45 t375.length co45) : Value).ownBlock ∧ some k_ ≠ ((.slice Ao51 t380.length co51) : Value).ownBlock ∧ some k_ ≠ ((.slice Ao56 t383.length co56) : Value).ownBlock ∧ some k_ ≠ ((.slice Ao61 t387.length co61) : Value).ownBlock ∧ some k_ ≠ ((.slice Ao67 t390.length co67) : Value).ownBlock ∧ some k_ ≠ ((.slice Ao71 t394.length co71) : Value).ownBlock ∧ some k_ ≠ ((.slice Ao78 t397.length co78) : Value).ownBlock) (.slice Ao43 t372.length co43) t372) ∧ Aside0 (Kd.R (Kd.int .i64) 3 wc w.heap.size (fun k_ => some k_ ≠ ((.slice Ao43 t372.length co43) : Value).ownBlock ∧ some k_ ≠ ((.slice Ao51 t380.length co51) : Value).ownBlock ∧ some k_ ≠ ((.slice Ao56 t383.length co56) : Value).ownBlock ∧ some k_ ≠ ((.slice Ao61 t387.length co61) : Value).ownBlock ∧ some k_ ≠ ((.slice Ao67 t390.length co67) : Value).ownBlock ∧ some k_ ≠ ((.slice Ao71 t394.length co71) : Value).ownBlock ∧ some k_ ≠ ((.slice Ao78 t397.length co78) : Value).ownBlock) (.slice Ao45 t375.length co45) t375) ∧ Aside0 (Kd.R (Kd.int .i64) 3 wc w.heap.size (fun k_ => some k_ ≠ ((.slice Ao43 t372.length co43) : Value).ownBlock ∧ some k_ ≠ ((.slice Ao45 t375.length co45) : Value).ownBlock ∧ some k_ ≠ ((.slice Ao56 t383.length co56) : Value).ownBlock ∧ some k_ ≠ ((.slice Ao61 t387.length co61) : Value).ownBlock ∧ some k_ ≠ ((.slice Ao67 t390.length co67) : Value).ownBlock ∧ some k_ ≠ ((.slice Ao71 t394.length co71) : Value).ownBlock ∧ some k_ ≠ ((.slice Ao78 t397.length co78) : Value).ownBlock) (.slice Ao51 t380.length co51) t380) ∧ Aside0 (Kd.R (Kd.int .i64) 3 wc w.heap.size (fun k_ => some k_ ≠ ((.slice Ao43 t372.length co43) : Value).ownBlock ∧ some k_ ≠ ((.slice Ao45 t375.length co45) : Value).ownBlock ∧ some k_ ≠ ((.slice Ao51 t380.length co51) : Value).ownBlock ∧ some k_ ≠ ((.slice Ao61 t387.length co61) : Value).ownBlock ∧ some k_ ≠ ((.slice Ao67 t390.length co67) : Value).ownBlock ∧ some k_ ≠ ((.slice Ao71 t394.length co71) : Value).ownBlock ∧ some k_ ≠ ((.slice Ao78 t397.length co78) : Value).ownBlock) (.slice Ao56 t383.length co56) t383) ∧ Aside0 (Kd.R (Kd.int .i64) 3 wc w.heap.size (fun k_ => some k_ ≠ ((.slice Ao43 t372.length co43) : Value).ownBlock ∧ some k_ ≠ ((.slice Ao45 t375.length co45) : Value).ownBlock ∧ some k_ ≠ ((.slice Ao51 t380.length co51) : Value).ownBlock ∧ some k_ ≠ ((.slice Ao56 t383.length co56) : Value).ownBlock ∧ some k_ ≠ ((.slice Ao67 t390.length co67) : Value).ownBlock ∧ some k_ ≠ ((.slice Ao71 t394.length co71) : Value).ownBlock ∧ some k_ ≠ ((.slice Ao78 t397.length co78) : Value).ownBlock) (.slice Ao61 t387.length co61) t387) ∧ Aside0 (Kd.R (Kd.int .i64) 3 wc w.heap.size (fun k_ => some k_ ≠ ((.slice Ao43 t372.length co43) : Value).ownBlock ∧ some k_ ≠ ((.slice Ao45 t375.length co45) : Value).ownBlock ∧ some k_ ≠ ((.slice Ao51 t380.length co51) : Value).ownBlock ∧ some k_ ≠ ((.slice Ao56 t383.length co56) : Value).ownBlock ∧ some k_ ≠ ((.slice Ao61 t387.length co61) : Value).ownBlock ∧ some k_ ≠ ((.slice Ao71 t394.length co71) : Value).ownBlock ∧ some k_ ≠ ((.slice Ao78 t397.length co78) : Value).ownBlock) (.slice Ao67 t390.length co67) t390) ∧ Aside0 (Kd.R (Kd.int .i64) 3 wc w.heap.size (fun k_ => some k_ ≠ ((.slice Ao43 t372.length co43) : Value).ownBlock ∧ some k_ ≠ ((.slice Ao45 t375.length co45) : Value).ownBlock ∧ some k_ ≠ ((.slice Ao51 t380.length co51) : Value).ownBlock ∧ some k_ ≠ ((.slice Ao56 t383.length co56) : Value).ownBlock ∧ some k_ ≠ ((.slice Ao61 t387.length co61) : Value).ownBlock ∧ some k_ ≠ ((.slice Ao67 t390.length co67) : Value).ownBlock ∧ some k_ ≠ ((.slice Ao78 t397.length co78) : Value).ownBlock) (.slice Ao71 t394.length co71) t394) ∧ Aside0 (Kd.R (Kd.int .i64) 3 wc w.heap.size (fun k_ => some k_ ≠ ((.slice Ao43 t372.length co43) : Value).ownBlock ∧ some k_ ≠ ((.slice Ao45 t375.length co45) : Value).ownBlock ∧ some k_ ≠ ((.slice Ao51 t380.length co51) : Value).ownBlock ∧ some k_ ≠ ((.slice Ao56 t383.length co56) : Value).ownBlock ∧ some k_ ≠ ((.slice Ao61 t387.length co61) : Value).ownBlock ∧ some k_ ≠ ((.slice Ao67 t390.length co67) : Value).ownBlock ∧ some k_ ≠ ((.slice Ao71 t394.length co71) : Value).ownBlock) (.slice Ao78 t397.length co78) t397) ∧ Aside0 (wc.heap[gb356]? = some (.cells #[(.slice A0_0 l0_0.length c0_0), (.slice A0_1 l0_1.length c0_1)] 24 (0, 0))) ∧ Aside0 (wc.heap[gb357]? = some (.cells #[(.slice A1_0 l1_0.length c1_0), (.slice A1_1 l1_1.length c1_1)] 24 (0, 0))) ∧ Aside0 (wc.heap[gb379]? = some (.cells #[(.slice Ao43 t372.length co43), (.slice Ao45 t375.length co45)] 26 (0, 0))) ∧ Aside0 (wc.heap[gb386]? = some (.cells #[(.slice Ao51 t380.length co51), (.slice Ao56 t383.length co56)] 26 (0, 0))) ∧ Aside0 (wc.heap[gb393]? = some (.cells #[(.slice Ao61 t387.length co61), (.slice Ao67 t390.length co67)] 26 (0, 0))) ∧ Aside0 (wc.heap[gb401]? = some (.cells #[(.slice Ao71 t394.length co71), (.slice Ao78 t397.length co78)] 26 (0, 0))) ∧ Aside0 (Below w.heap.size w wc))
   case first =>
    have H := HC25.out
    clear HC25
    replace H := Option.bind_eq_some_iff.mp H
    obtain ⟨t402, A790, H⟩ := H
    replace H : (if t402 = true then (laws_FnExactDrop.j0 k t378 t400 (t400 != t378) l0_0 l0_1 l1_0 l1_1 t372 t375 t380 t383 t387 t390 t394 t397) else (laws_FnExactDrop.j0 k t378 t400 true l0_0 l0_1 l1_0 l1_1 t372 t375 t380 t383 t387 t390 t394 t397)) = some r := H
    have A79 := Aside0.mk A790
    clear A790
    by_cases c80 : t402 = true
    ·
     subst c80
     have H1 : (laws_FnExactDrop.j0 k t378 t400 (t400 != t378) l0_0 l0_1 l1_0 l1_1 t372 t375 t380 t383 t387 t390 t394 t397) = some r := by rw [if_pos rfl] at H; exact H
     clear H
     have H := H1
     clear H1
     have H' := Aside0.mk H
     clear H
     have hnb81 := NB401_356.out
     have hnc81 := NB356_401.out
     have hnb82 := NB401_357.out
     have hnc82 := NB357_401.out
     have hnb83 := NB401_379.out
     have hnc83 := NB379_401.out
     have hnb84 := NB401_386.out
     have hnc84 := NB386_401.out
     have hnb85 := NB401_393.out
     have hnc85 := NB393_401.out
     have hcz86_0 : w70.cell? ⟨gb401, 0, none⟩ = some (.slice none 0 0) := (blk_cell BK401.out 0).trans rfl
     have hcz86_1 : w70.cell? ⟨gb401, 1, none⟩ = some (.slice none 0 0) := (blk_cell BK401.out 1).trans rfl
     have hfz86_0 := blk_frozen BK401.out 0
     have hfz86_1 := blk_frozen BK401.out 1
     have hnb87 := NB379_356.out
     have hnc87 := NB356_379.out
     have hnb88 := NB379_357.out
     have hnc88 := NB357_379.out
     have hnb89 := NB379_386.out
     have hnc89 := NB386_379.out
     have hnb90 := NB379_393.out
     have hnc90 := NB393_379.out
     have hcz91_0 : w70.cell? ⟨gb379, 0, none⟩ = some (.slice Ao43 t372.length co43) := (blk_cell BK379.out 0).trans rfl
     have hcz91_1 : w70.cell? ⟨gb379, 1, none⟩ = some (.slice Ao45 t375.length co45) := (blk_cell BK379.out 1).trans rfl
     have hfz91_0 := blk_frozen BK379.out 0
     have hfz91_1 := blk_frozen BK379.out 1
     go_wp2_with (first | ((with_reducible refine gate_callee (f := 12) rfl ?_); refine goesL_ (some 47) rfl rfl Try.func12 (by kernel_rfl) rfl #[.agg #[.slice Ao71 t394.length co71, .slice Ao78 t397.length co78], .agg #[.slice Ao43 t372.length co43, .slice Ao45 t375.length co45]] rfl (by (try simp only [List.map_toArray, List.map_cons, List.map_nil]); first | done | rfl | (simp only [List.length_drop, List.length_take]; rfl)) ?_; (with_reducible refine (laws_eqArray.calls k _ _ t394 _ _ t397 _ _ t372 _ _ t375 true _ ?side1 ?side2 ?side3 ?side4 ?side5 ?side6 ?side7 ?side8 A79.out).mono ?_); (case side1 => refine (Kd.R_reads' (e := 3) (base := w.heap.size) (ok := fun k_ => ((((((((((some k_ ≠ (.slice Ao78 t397.length co78 : Value).ownBlock ∧ some k_ ≠ (v361 : Value).ownBlock) ∧ some k_ ≠ (v364 : Value).ownBlock) ∧ some k_ ≠ (v367 : Value).ownBlock) ∧ some k_ ≠ (v370 : Value).ownBlock) ∧ some k_ ≠ (.slice Ao43 t372.length co43 : Value).ownBlock) ∧ some k_ ≠ (.slice Ao45 t375.length co45 : Value).ownBlock) ∧ some k_ ≠ (.slice Ao51 t380.length co51 : Value).ownBlock) ∧ some k_ ≠ (.slice Ao56 t383.length co56 : Value).ownBlock) ∧ some k_ ≠ (.slice Ao61 t387.length co61 : Value).ownBlock) ∧ some k_ ≠ (.slice Ao67 t390.length co67 : Value).ownBlock)) (n := t394.length) (c := co71) ?_).2.2; exact (by (with_reducible repeat (first | apply Kd.R_alloc | apply Kd.R_drewN | apply Kd.R_drew)); exact (far2 HO396.out BK401.out))); (case side2 => exact (Kd.R_reads' HO396.out).2.1); (case side3 => refine (Kd.R_reads' (e := 3) (base := w.heap.size) (ok := fun k_ => ((((((((((some k_ ≠ (.slice Ao71 t394.length co71 : Value).ownBlock ∧ some k_ ≠ (v361 : Value).ownBlock) ∧ some k_ ≠ (v364 : Value).ownBlock) ∧ some k_ ≠ (v367 : Value).ownBlock) ∧ some k_ ≠ (v370 : Value).ownBlock) ∧ some k_ ≠ (.slice Ao43 t372.length co43 : Value).ownBlock) ∧ some k_ ≠ (.slice Ao45 t375.length co45 : Value).ownBlock) ∧ some k_ ≠ (.slice Ao51 t380.length co51 : Value).ownBlock) ∧ some k_ ≠ (.slice Ao56 t383.length co56 : Value).ownBlock) ∧ some k_ ≠ (.slice Ao61 t387.length co61 : Value).ownBlock) ∧ some k_ ≠ (.slice Ao67 t390.length co67 : Value).ownBlock)) (n := t397.length) (c := co78) ?_).2.2; exact (by (with_reducible repeat (first | apply Kd.R_alloc | apply Kd.R_drewN | apply Kd.R_drew)); exact (far2 HO399.out BK401.out))); (case side4 => exact (Kd.R_reads' HO399.out).2.1); (case side5 => refine (Kd.R_reads' (e := 3) (base := w.heap.size) (ok := fun k_ => (((((((some k_ ≠ (v361 : Value).ownBlock ∧ (some k_ ≠ (v364 : Value).ownBlock ∧ (some k_ ≠ (v367 : Value).ownBlock ∧ (some k_ ≠ (v370 : Value).ownBlock ∧ some k_ ≠ (.slice Ao45 t375.length co45 : Value).ownBlock)))) ∧ some k_ ≠ (.slice Ao51 t380.length co51 : Value).ownBlock) ∧ some k_ ≠ (.slice Ao56 t383.length co56 : Value).ownBlock) ∧ some k_ ≠ (.slice Ao61 t387.length co61 : Value).ownBlock) ∧ some k_ ≠ (.slice Ao67 t390.length co67 : Value).ownBlock) ∧ some k_ ≠ (.slice Ao71 t394.length co71 : Value).ownBlock) ∧ some k_ ≠ (.slice Ao78 t397.length co78 : Value).ownBlock)) (n := t372.length) (c := co43) ?_).2.2; exact (by (with_reducible repeat (first | apply Kd.R_alloc | apply Kd.R_drewN | apply Kd.R_drew)); exact (far2 HO374.out BK401.out))); (case side6 => exact (Kd.R_reads' HO374.out).2.1); (case side7 => refine (Kd.R_reads' (e := 3) (base := w.heap.size) (ok := fun k_ => (((((((some k_ ≠ (v361 : Value).ownBlock ∧ (some k_ ≠ (v364 : Value).ownBlock ∧ (some k_ ≠ (v367 : Value).ownBlock ∧ (some k_ ≠ (v370 : Value).ownBlock ∧ some k_ ≠ (.slice Ao43 t372.length co43 : Value).ownBlock)))) ∧ some k_ ≠ (.slice Ao51 t380.length co51 : Value).ownBlock) ∧ some k_ ≠ (.slice Ao56 t383.length co56 : Value).ownBlock) ∧ some k_ ≠ (.slice Ao61 t387.length co61 : Value).ownBlock) ∧ some k_ ≠ (.slice Ao67 t390.length co67 : Value).ownBlock) ∧ some k_ ≠ (.slice Ao71 t394.length co71 : Value).ownBlock) ∧ some k_ ≠ (.slice Ao78 t397.length co78 : Value).ownBlock)) (n := t375.length) (c := co45) ?_).2.2; exact (by (with_reducible repeat (first | apply Kd.R_alloc | apply Kd.R_drewN | apply Kd.R_drew)); exact (far2 HO377.out BK401.out))); (case side8 => exact (Kd.R_reads' HO377.out).2.1); rintro e w92 ⟨rfl, hb⟩; refine ⟨_, rfl, ?_⟩; replace HO362 := Aside0.mk (Kd.R_below (by (with_reducible repeat (first | apply Kd.R_alloc | apply Kd.R_drewN | apply Kd.R_drew)); exact (far2 HO362.out BK401.out)) hb); replace HO365 := Aside0.mk (Kd.R_below (by (with_reducible repeat (first | apply Kd.R_alloc | apply Kd.R_drewN | apply Kd.R_drew)); exact (far2 HO365.out BK401.out)) hb); replace HO368 := Aside0.mk (Kd.R_below (by (with_reducible repeat (first | apply Kd.R_alloc | apply Kd.R_drewN | apply Kd.R_drew)); exact (far2 HO368.out BK401.out)) hb); replace HO371 := Aside0.mk (Kd.R_below (by (with_reducible repeat (first | apply Kd.R_alloc | apply Kd.R_drewN | apply Kd.R_drew)); exact (far2 HO371.out BK401.out)) hb); replace HO374 := Aside0.mk (Kd.R_below (by (with_reducible repeat (first | apply Kd.R_alloc | apply Kd.R_drewN | apply Kd.R_drew)); exact (far2 HO374.out BK401.out)) hb); replace HO377 := Aside0.mk (Kd.R_below (by (with_reducible repeat (first | apply Kd.R_alloc | apply Kd.R_drewN | apply Kd.R_drew)); exact (far2 HO377.out BK401.out)) hb); replace HO382 := Aside0.mk (Kd.R_below (by (with_reducible repeat (first | apply Kd.R_alloc | apply Kd.R_drewN | apply Kd.R_drew)); exact (far2 HO382.out BK401.out)) hb); replace HO385 := Aside0.mk (Kd.R_below (by (with_reducible repeat (first | apply Kd.R_alloc | apply Kd.R_drewN | apply Kd.R_drew)); exact (far2 HO385.out BK401.out)) hb); replace HO389 := Aside0.mk (Kd.R_below (by (with_reducible repeat (first | apply Kd.R_alloc | apply Kd.R_drewN | apply Kd.R_drew)); exact (far2 HO389.out BK401.out)) hb); replace HO392 := Aside0.mk (Kd.R_below (by (with_reducible repeat (first | apply Kd.R_alloc | apply Kd.R_drewN | apply Kd.R_drew)); exact (far2 HO392.out BK401.out)) hb); replace HO396 := Aside0.mk (Kd.R_below (by (with_reducible repeat (first | apply Kd.R_alloc | apply Kd.R_drewN | apply Kd.R_drew)); exact (far2 HO396.out BK401.out)) hb); replace HO399 := Aside0.mk (Kd.R_below (by (with_reducible repeat (first | apply Kd.R_alloc | apply Kd.R_drewN | apply Kd.R_drew)); exact (far2 HO399.out BK401.out)) hb); replace BK356 := Aside0.mk (blk_below (g := gb356) (o := .cells #[.slice A0_0 l0_0.length c0_0, .slice A0_1 l0_1.length c0_1] 24 (0, 0)) (by (with_reducible repeat (first | refine blk_drewN ?_ _ | refine blk_drew ?_ | refine blk_alloc ?_ _)); refine blk_far ?_ NB356_401.out _; (with_reducible repeat (first | refine blk_drewN ?_ _ | refine blk_drew ?_ | refine blk_alloc ?_ _)); refine blk_far ?_ NB356_401.out _; (with_reducible repeat (first | refine blk_drewN ?_ _ | refine blk_drew ?_ | refine blk_alloc ?_ _)); exact BK356.out) hb); replace BK357 := Aside0.mk (blk_below (g := gb357) (o := .cells #[.slice A1_0 l1_0.length c1_0, .slice A1_1 l1_1.length c1_1] 24 (0, 0)) (by (with_reducible repeat (first | refine blk_drewN ?_ _ | refine blk_drew ?_ | refine blk_alloc ?_ _)); refine blk_far ?_ NB357_401.out _; (with_reducible repeat (first | refine blk_drewN ?_ _ | refine blk_drew ?_ | refine blk_alloc ?_ _)); refine blk_far ?_ NB357_401.out _; (with_reducible repeat (first | refine blk_drewN ?_ _ | refine blk_drew ?_ | refine blk_alloc ?_ _)); exact BK357.out) hb); replace BK379 := Aside0.mk (blk_below (g := gb379) (o := .cells #[.slice Ao43 t372.length co43, .slice Ao45 t375.length co45] 26 (0, 0)) (by (with_reducible repeat (first | refine blk_drewN ?_ _ | refine blk_drew ?_ | refine blk_alloc ?_ _)); refine blk_far ?_ NB379_401.out _; (with_reducible repeat (first | refine blk_drewN ?_ _ | refine blk_drew ?_ | refine blk_alloc ?_ _)); refine blk_far ?_ NB379_401.out _; (with_reducible repeat (first | refine blk_drewN ?_ _ | refine blk_drew ?_ | refine blk_alloc ?_ _)); exact BK379.out) hb); replace BK386 := Aside0.mk (blk_below (g := gb386) (o := .cells #[.slice Ao51 t380.length co51, .slice Ao56 t383.length co56] 26 (0, 0)) (by (with_reducible repeat (first | refine blk_drewN ?_ _ | refine blk_drew ?_ | refine blk_alloc ?_ _)); refine blk_far ?_ NB386_401.out _; (with_reducible repeat (first | refine blk_drewN ?_ _ | refine blk_drew ?_ | refine blk_alloc ?_ _)); refine blk_far ?_ NB386_401.out _; (with_reducible repeat (first | refine blk_drewN ?_ _ | refine blk_drew ?_ | refine blk_alloc ?_ _)); exact BK386.out) hb); replace BK393 := Aside0.mk (blk_below (g := gb393) (o := .cells #[.slice Ao61 t387.length co61, .slice Ao67 t390.length co67] 26 (0, 0)) (by (with_reducible repeat (first | refine blk_drewN ?_ _ | refine blk_drew ?_ | refine blk_alloc ?_ _)); refine blk_far ?_ NB393_401.out _; (with_reducible repeat (first | refine blk_drewN ?_ _ | refine blk_drew ?_ | refine blk_alloc ?_ _)); refine blk_far ?_ NB393_401.out _; (with_reducible repeat (first | refine blk_drewN ?_ _ | refine blk_drew ?_ | refine blk_alloc ?_ _)); exact BK393.out) hb); replace BK401 := Aside0.mk (blk_below (g := gb401) (o := .cells #[.slice Ao71 t394.length co71, .slice Ao78 t397.length co78] 26 (0, 0)) (by (with_reducible repeat (first | refine blk_drewN ?_ _ | refine blk_drew ?_ | refine blk_alloc ?_ _)); refine blk_put (cs := #[.slice Ao71 t394.length co71, .slice none 0 0]) ?_ 1 _ rfl; (with_reducible repeat (first | refine blk_drewN ?_ _ | refine blk_drew ?_ | refine blk_alloc ?_ _)); refine blk_put (cs := #[.slice none 0 0, .slice none 0 0]) ?_ 0 _ rfl; (with_reducible repeat (first | refine blk_drewN ?_ _ | refine blk_drew ?_ | refine blk_alloc ?_ _)); exact BK401.out) hb); replace HB := Aside0.mk (below_step (by repeat (first | (with_reducible first | exact HB.out | apply below_alloc | apply pw_below_drewN | apply below_drew1 | refine below_set ?_ GE356.out | refine below_set ?_ GE357.out | refine below_set ?_ GE379.out | refine below_set ?_ GE386.out | refine below_set ?_ GE393.out | refine below_set ?_ GE401.out) | exact HB.out)) hb); (try clear hb); (try clear hb2); (try clear hk); (try clear hi)))
     go_meet
     case rel => exact ⟨_, ((t400 != t378)), (by first | rfl | (simp; done) | (simp [*]; done)), H', ⟨by first | omega | exact Nat.le_refl _⟩, ⟨by (with_reducible repeat (first | apply Kd.R_alloc | apply Kd.R_drewN | apply Kd.R_drew)); exact Kd.R_mono HO374.out (fun _ hk => ⟨hk.1.1.1.1.1.1.2.2.2.2, ⟨hk.1.1.1.1.1.2, ⟨hk.1.1.1.1.2, ⟨hk.1.1.1.2, ⟨hk.1.1.2, ⟨hk.1.2, hk.2⟩⟩⟩⟩⟩⟩)⟩, ⟨by (with_reducible repeat (first | apply Kd.R_alloc | apply Kd.R_drewN | apply Kd.R_drew)); exact Kd.R_mono HO377.out (fun _ hk => ⟨hk.1.1.1.1.1.1.2.2.2.2, ⟨hk.1.1.1.1.1.2, ⟨hk.1.1.1.1.2, ⟨hk.1.1.1.2, ⟨hk.1.1.2, ⟨hk.1.2, hk.2⟩⟩⟩⟩⟩⟩)⟩, ⟨by (with_reducible repeat (first | apply Kd.R_alloc | apply Kd.R_drewN | apply Kd.R_drew)); exact Kd.R_mono HO382.out (fun _ hk => ⟨hk.1.1.1.1.1.2, ⟨hk.1.1.1.1.2, ⟨hk.1.1.1.1.1.1.1.1.1.1, ⟨hk.1.1.1.2, ⟨hk.1.1.2, ⟨hk.1.2, hk.2⟩⟩⟩⟩⟩⟩)⟩, ⟨by (with_reducible repeat (first | apply Kd.R_alloc | apply Kd.R_drewN | apply Kd.R_drew)); exact Kd.R_mono HO385.out (fun _ hk => ⟨hk.1.1.1.1.1.2, ⟨hk.1.1.1.1.2, ⟨hk.1.1.1.1.1.1.1.1.1.1, ⟨hk.1.1.1.2, ⟨hk.1.1.2, ⟨hk.1.2, hk.2⟩⟩⟩⟩⟩⟩)⟩, ⟨by (with_reducible repeat (first | apply Kd.R_alloc | apply Kd.R_drewN | apply Kd.R_drew)); exact Kd.R_mono HO389.out (fun _ hk => ⟨hk.1.1.1.1.1.2, ⟨hk.1.1.1.1.2, ⟨hk.1.1.1.2, ⟨hk.1.1.2, ⟨hk.1.1.1.1.1.1.1.1.1.1, ⟨hk.1.2, hk.2⟩⟩⟩⟩⟩⟩)⟩, ⟨by (with_reducible repeat (first | apply Kd.R_alloc | apply Kd.R_drewN | apply Kd.R_drew)); exact Kd.R_mono HO392.out (fun _ hk => ⟨hk.1.1.1.1.1.2, ⟨hk.1.1.1.1.2, ⟨hk.1.1.1.2, ⟨hk.1.1.2, ⟨hk.1.1.1.1.1.1.1.1.1.1, ⟨hk.1.2, hk.2⟩⟩⟩⟩⟩⟩)⟩, ⟨by (with_reducible repeat (first | apply Kd.R_alloc | apply Kd.R_drewN | apply Kd.R_drew)); exact Kd.R_mono HO396.out (fun _ hk => ⟨hk.1.1.1.1.1.2, ⟨hk.1.1.1.1.2, ⟨hk.1.1.1.2, ⟨hk.1.1.2, ⟨hk.1.2, ⟨hk.2, hk.1.1.1.1.1.1.1.1.1.1⟩⟩⟩⟩⟩⟩)⟩, ⟨by (with_reducible repeat (first | apply Kd.R_alloc | apply Kd.R_drewN | apply Kd.R_drew)); exact Kd.R_mono HO399.out (fun _ hk => ⟨hk.1.1.1.1.1.2, ⟨hk.1.1.1.1.2, ⟨hk.1.1.1.2, ⟨hk.1.1.2, ⟨hk.1.2, ⟨hk.2, hk.1.1.1.1.1.1.1.1.1.1⟩⟩⟩⟩⟩⟩)⟩, ⟨by (with_reducible repeat (first | refine blk_drewN ?_ _ | refine blk_drew ?_ | refine blk_alloc ?_ _)); exact BK356.out⟩, ⟨by (with_reducible repeat (first | refine blk_drewN ?_ _ | refine blk_drew ?_ | refine blk_alloc ?_ _)); exact BK357.out⟩, ⟨by (with_reducible repeat (first | refine blk_drewN ?_ _ | refine blk_drew ?_ | refine blk_alloc ?_ _)); exact BK379.out⟩, ⟨by (with_reducible repeat (first | refine blk_drewN ?_ _ | refine blk_drew ?_ | refine blk_alloc ?_ _)); exact BK386.out⟩, ⟨by (with_reducible repeat (first | refine blk_drewN ?_ _ | refine blk_drew ?_ | refine blk_alloc ?_ _)); exact BK393.out⟩, ⟨by (with_reducible repeat (first | refine blk_drewN ?_ _ | refine blk_drew ?_ | refine blk_alloc ?_ _)); exact BK401.out⟩, ⟨by repeat (first | (with_reducible first | exact HB.out | apply below_alloc | apply pw_below_drewN | apply below_drew1 | refine below_set ?_ GE356.out | refine below_set ?_ GE357.out | refine below_set ?_ GE379.out | refine below_set ?_ GE386.out | refine below_set ?_ GE393.out | refine below_set ?_ GE401.out) | exact HB.out)⟩⟩
    ·
     replace c80 := Bool.eq_false_iff.mpr c80
     subst c80
     have H1 : (laws_FnExactDrop.j0 k t378 t400 true l0_0 l0_1 l1_0 l1_1 t372 t375 t380 t383 t387 t390 t394 t397) = some r := by rw [if_neg (show ¬ (false = true) by decide)] at H; exact H
     clear H
     have H := H1
     clear H1
     have hz_ : ∀ kz, laws_FnExactDrop.j0 kz t378 t400 true l0_0 l0_1 l1_0 l1_1 t372 t375 t380 t383 t387 t390 t394 t397 = some r → r = false := by intro kz hz; cases kz with | zero => exact absurd hz (by simp [laws_FnExactDrop.j0]) | succ kz => simp only [laws_FnExactDrop.j0] at hz; first | (rw [if_pos rfl] at hz; exact (Option.some.inj hz).symm) | (simp at hz; exact hz.symm) | (simp at hz; exact hz)
     exact absurd (HT.out.symm.trans (hz_ _ H)) (by decide)
   case rest =>
    clear HC25
    try clear c1
    try clear p2
    try clear c4
    try clear c5
    try clear c6
    try clear c7
    try clear c8
    try clear c9
    try clear c10
    try clear c11
    try clear c12
    try clear c47
    try clear c52
    try clear c53
    try clear c54
    try clear c57
    try clear c62
    try clear c63
    try clear c64
    try clear c65
    try clear c72
    try clear c73
    try clear c74
    try clear c75
    try clear c76
    try clear c80
    try clear c81
    try clear c82
    try clear c83
    try clear c84
    try clear c85
    try clear c87
    try clear c88
    try clear c89
    try clear c90
    try clear hcz48_0
    try clear hcz48_1
    try clear hcz55_0
    try clear hcz55_1
    try clear hcz58_0
    try clear hcz58_1
    try clear hcz66_0
    try clear hcz66_1
    try clear hcz68_0
    try clear hcz68_1
    try clear hcz77_0
    try clear hcz77_1
    try clear hcz86_0
    try clear hcz86_1
    try clear hcz91_0
    try clear hcz91_1
    try clear hfz48_0
    try clear hfz48_1
    try clear hfz55_0
    try clear hfz55_1
    try clear hfz58_0
    try clear hfz58_1
    try clear hfz66_0
    try clear hfz66_1
    try clear hfz68_0
    try clear hfz68_1
    try clear hfz77_0
    try clear hfz77_1
    try clear hfz86_0
    try clear hfz86_1
    try clear hfz91_0
    try clear hfz91_1
    obtain ⟨kq, x53_24, rfl, HA, HJ24, HO_380000, HO_380001, HO_387000, HO_387001, HO_394000, HO_394001, HO_402000, HO_402001, BK356, BK357, BK379, BK386, BK393, BK401, HB⟩ := hcut
    cases kq with
    | zero => exact absurd HA.out (by simp [laws_FnExactDrop.j0])
    | succ kj24 =>
     have H := HA.out
     clear HA
     simp only [laws_FnExactDrop.j0] at H
     by_cases c93 : x53_24 = true
     ·
      subst c93
      have H1 : (some false) = some r := by rw [if_pos rfl] at H; exact H
      clear H
      have H := H1
      clear H1
      obtain rfl := Option.some.inj H
      exact absurd HT.out (by decide)
     ·
      replace c93 := Bool.eq_false_iff.mpr c93
      subst c93
      have H1 : ((laws_toArray.f kj24 l0_0 l0_1).bind fun bt403 => ((laws_eqArray.f kj24 t380 t383 bt403.1 bt403.2).bind fun t409 => (if t409 = true then ((laws_toArray.f kj24 l1_0 l1_1).bind fun bt410 => ((laws_eqArray.f kj24 t387 t390 bt410.1 bt410.2).bind fun t416 => (if t416 = true then ((laws_markArray.f kj24 t380 t383 1).bind fun bt417 => ((laws_markArray.f kj24 t387 t390 bt417.1).bind fun bt420 => (if bt420.1 < 0 then (laws_FnExactDrop.j1 kj24 t378 true l0_0 l0_1 l1_0 l1_1 t372 t375 t394 t397) else ((laws_eqArray.f kj24 t394 t397 t372 t375).bind fun t423 => (if t423 = true then (laws_FnExactDrop.j1 kj24 t378 (t400 != t378) l0_0 l0_1 l1_0 l1_1 t372 t375 t394 t397) else (laws_FnExactDrop.j1 kj24 t378 true l0_0 l0_1 l1_0 l1_1 t372 t375 t394 t397)))))) else (some false)))) else (some false)))) = some r := by rw [if_neg (show ¬ (false = true) by decide)] at H; exact H
      clear H
      have H := H1
      clear H1
      replace H := Option.bind_eq_some_iff.mp H
      obtain ⟨⟨t403, t406⟩, A940, H⟩ := H
      replace H : ((laws_eqArray.f kj24 t380 t383 t403 t406).bind fun t409 => (if t409 = true then ((laws_toArray.f kj24 l1_0 l1_1).bind fun bt410 => ((laws_eqArray.f kj24 t387 t390 bt410.1 bt410.2).bind fun t416 => (if t416 = true then ((laws_markArray.f kj24 t380 t383 1).bind fun bt417 => ((laws_markArray.f kj24 t387 t390 bt417.1).bind fun bt420 => (if bt420.1 < 0 then (laws_FnExactDrop.j1 kj24 t378 true l0_0 l0_1 l1_0 l1_1 t372 t375 t394 t397) else ((laws_eqArray.f kj24 t394 t397 t372 t375).bind fun t423 => (if t423 = true then (laws_FnExactDrop.j1 kj24 t378 (t400 != t378) l0_0 l0_1 l1_0 l1_1 t372 t375 t394 t397) else (laws_FnExactDrop.j1 kj24 t378 true l0_0 l0_1 l1_0 l1_1 t372 t375 t394 t397)))))) else (some false)))) else (some false))) = some r := H
      have A94 := Aside0.mk A940
      clear A940
      replace H := Option.bind_eq_some_iff.mp H
      obtain ⟨t409, A950, H⟩ := H
      replace H : (if t409 = true then ((laws_toArray.f kj24 l1_0 l1_1).bind fun bt410 => ((laws_eqArray.f kj24 t387 t390 bt410.1 bt410.2).bind fun t416 => (if t416 = true then ((laws_markArray.f kj24 t380 t383 1).bind fun bt417 => ((laws_markArray.f kj24 t387 t390 bt417.1).bind fun bt420 => (if bt420.1 < 0 then (laws_FnExactDrop.j1 kj24 t378 true l0_0 l0_1 l1_0 l1_1 t372 t375 t394 t397) else ((laws_eqArray.f kj24 t394 t397 t372 t375).bind fun t423 => (if t423 = true then (laws_FnExactDrop.j1 kj24 t378 (t400 != t378) l0_0 l0_1 l1_0 l1_1 t372 t375 t394 t397) else (laws_FnExactDrop.j1 kj24 t378 true l0_0 l0_1 l1_0 l1_1 t372 t375 t394 t397)))))) else (some false)))) else (some false)) = some r := H
      have A95 := Aside0.mk A950
      clear A950
      by_cases c96 : t409 = true
      ·
       subst c96
       have H1 : ((laws_toArray.f kj24 l1_0 l1_1).bind fun bt410 => ((laws_eqArray.f kj24 t387 t390 bt410.1 bt410.2).bind fun t416 => (if t416 = true then ((laws_markArray.f kj24 t380 t383 1).bind fun bt417 => ((laws_markArray.f kj24 t387 t390 bt417.1).bind fun bt420 => (if bt420.1 < 0 then (laws_FnExactDrop.j1 kj24 t378 true l0_0 l0_1 l1_0 l1_1 t372 t375 t394 t397) else ((laws_eqArray.f kj24 t394 t397 t372 t375).bind fun t423 => (if t423 = true then (laws_FnExactDrop.j1 kj24 t378 (t400 != t378) l0_0 l0_1 l1_0 l1_1 t372 t375 t394 t397) else (laws_FnExactDrop.j1 kj24 t378 true l0_0 l0_1 l1_0 l1_1 t372 t375 t394 t397)))))) else (some false)))) = some r := by rw [if_pos rfl] at H; exact H
       clear H
       have H := H1
       clear H1
       replace H := Option.bind_eq_some_iff.mp H
       obtain ⟨⟨t410, t413⟩, A970, H⟩ := H
       replace H : ((laws_eqArray.f kj24 t387 t390 t410 t413).bind fun t416 => (if t416 = true then ((laws_markArray.f kj24 t380 t383 1).bind fun bt417 => ((laws_markArray.f kj24 t387 t390 bt417.1).bind fun bt420 => (if bt420.1 < 0 then (laws_FnExactDrop.j1 kj24 t378 true l0_0 l0_1 l1_0 l1_1 t372 t375 t394 t397) else ((laws_eqArray.f kj24 t394 t397 t372 t375).bind fun t423 => (if t423 = true then (laws_FnExactDrop.j1 kj24 t378 (t400 != t378) l0_0 l0_1 l1_0 l1_1 t372 t375 t394 t397) else (laws_FnExactDrop.j1 kj24 t378 true l0_0 l0_1 l1_0 l1_1 t372 t375 t394 t397)))))) else (some false))) = some r := H
       have A97 := Aside0.mk A970
       clear A970
       replace H := Option.bind_eq_some_iff.mp H
       obtain ⟨t416, A980, H⟩ := H
       replace H : (if t416 = true then ((laws_markArray.f kj24 t380 t383 1).bind fun bt417 => ((laws_markArray.f kj24 t387 t390 bt417.1).bind fun bt420 => (if bt420.1 < 0 then (laws_FnExactDrop.j1 kj24 t378 true l0_0 l0_1 l1_0 l1_1 t372 t375 t394 t397) else ((laws_eqArray.f kj24 t394 t397 t372 t375).bind fun t423 => (if t423 = true then (laws_FnExactDrop.j1 kj24 t378 (t400 != t378) l0_0 l0_1 l1_0 l1_1 t372 t375 t394 t397) else (laws_FnExactDrop.j1 kj24 t378 true l0_0 l0_1 l1_0 l1_1 t372 t375 t394 t397)))))) else (some false)) = some r := H
       have A98 := Aside0.mk A980
       clear A980
       by_cases c99 : t416 = true
       ·
        subst c99
        have H1 : ((laws_markArray.f kj24 t380 t383 1).bind fun bt417 => ((laws_markArray.f kj24 t387 t390 bt417.1).bind fun bt420 => (if bt420.1 < 0 then (laws_FnExactDrop.j1 kj24 t378 true l0_0 l0_1 l1_0 l1_1 t372 t375 t394 t397) else ((laws_eqArray.f kj24 t394 t397 t372 t375).bind fun t423 => (if t423 = true then (laws_FnExactDrop.j1 kj24 t378 (t400 != t378) l0_0 l0_1 l1_0 l1_1 t372 t375 t394 t397) else (laws_FnExactDrop.j1 kj24 t378 true l0_0 l0_1 l1_0 l1_1 t372 t375 t394 t397)))))) = some r := by rw [if_pos rfl] at H; exact H
        clear H
        have H := H1
        clear H1
        replace H := Option.bind_eq_some_iff.mp H
        obtain ⟨⟨t417, t418, t419⟩, A1000, H⟩ := H
        replace H : ((laws_markArray.f kj24 t387 t390 t417).bind fun bt420 => (if bt420.1 < 0 then (laws_FnExactDrop.j1 kj24 t378 true l0_0 l0_1 l1_0 l1_1 t372 t375 t394 t397) else ((laws_eqArray.f kj24 t394 t397 t372 t375).bind fun t423 => (if t423 = true then (laws_FnExactDrop.j1 kj24 t378 (t400 != t378) l0_0 l0_1 l1_0 l1_1 t372 t375 t394 t397) else (laws_FnExactDrop.j1 kj24 t378 true l0_0 l0_1 l1_0 l1_1 t372 t375 t394 t397))))) = some r := H
        have A100 := Aside0.mk A1000
        clear A1000
        replace H := Option.bind_eq_some_iff.mp H
        obtain ⟨⟨t420, t421, t422⟩, A1010, H⟩ := H
        replace H : (if t420 < 0 then (laws_FnExactDrop.j1 kj24 t378 true l0_0 l0_1 l1_0 l1_1 t372 t375 t394 t397) else ((laws_eqArray.f kj24 t394 t397 t372 t375).bind fun t423 => (if t423 = true then (laws_FnExactDrop.j1 kj24 t378 (t400 != t378) l0_0 l0_1 l1_0 l1_1 t372 t375 t394 t397) else (laws_FnExactDrop.j1 kj24 t378 true l0_0 l0_1 l1_0 l1_1 t372 t375 t394 t397)))) = some r := H
        have A101 := Aside0.mk A1010
        clear A1010
        have HC102 := Aside0.mk H
        clear H
        try go_wp2
        replace HO_380000 := Aside0.mk (Kd.R_drew HO_380000.out)
        replace HO_380001 := Aside0.mk (Kd.R_drew HO_380001.out)
        replace HO_387000 := Aside0.mk (Kd.R_drew HO_387000.out)
        replace HO_387001 := Aside0.mk (Kd.R_drew HO_387001.out)
        replace HO_394000 := Aside0.mk (Kd.R_drew HO_394000.out)
        replace HO_394001 := Aside0.mk (Kd.R_drew HO_394001.out)
        replace HO_402000 := Aside0.mk (Kd.R_drew HO_402000.out)
        replace HO_402001 := Aside0.mk (Kd.R_drew HO_402001.out)
        replace BK356 := Aside0.mk (blk_drew BK356.out)
        replace BK357 := Aside0.mk (blk_drew BK357.out)
        replace BK379 := Aside0.mk (blk_drew BK379.out)
        replace BK386 := Aside0.mk (blk_drew BK386.out)
        replace BK393 := Aside0.mk (blk_drew BK393.out)
        replace BK401 := Aside0.mk (blk_drew BK401.out)
        replace HB := Aside0.mk (below_drew1 HB.out)
        refine start_ (n := 5) (S := fun w' => w'.cell? ⟨gb386, 0, none⟩ = some (.slice Ao51 t380.length co51) ∧ w'.cell? ⟨gb386, 1, none⟩ = some (.slice Ao56 t383.length co56) ∧ w'.cell? ⟨gb356, 0, none⟩ = some (.slice A0_0 l0_0.length c0_0) ∧ w'.cell? ⟨gb356, 1, none⟩ = some (.slice A0_1 l0_1.length c0_1)) (ds := []) #[false, false, false, false, false] (by kernel_rfl) rfl rfl ⟨(blk_cell BK386.out 0).trans rfl, (blk_cell BK386.out 1).trans rfl, (blk_cell BK356.out 0).trans rfl, (blk_cell BK356.out 1).trans rfl⟩ (fun hHeld => ?_)
        generalize wc.drew = w103 at HO_380000 HO_380001 HO_387000 HO_387001 HO_394000 HO_394001 HO_402000 HO_402001 BK356 BK357 BK379 BK386 BK393 BK401 HB hHeld ⊢
        refine take_ (i := 0) (N := some 54) (v := ?_) (a' := ?_) #[true, false, false, false, false] rfl rfl (by kernel_rfl) (fun _ _ _ h => h) (Or.inl ⟨by rfl, ?_⟩) hHeld ?_ ?_
        rotate_left
        ·
         rintro w' ⟨s0, s1, s2, s3⟩
         go_simp
         with_reducible rfl
        rotate_left
        ·
         simp only [Act.put, List.setIfInBounds_toArray, List.set_cons_zero, List.set_cons_succ, i64_w, i32_w]
         rfl
        refine take_ (i := 1) (N := some 55) (v := ?_) (a' := ?_) #[true, true, false, false, false] rfl rfl (by kernel_rfl) (fun _ _ _ h => h) (Or.inl ⟨by rfl, ?_⟩) hHeld ?_ ?_
        rotate_left
        ·
         rintro w' ⟨s0, s1, s2, s3⟩
         go_simp
         with_reducible rfl
        rotate_left
        ·
         simp only [Act.put, List.setIfInBounds_toArray, List.set_cons_zero, List.set_cons_succ, i64_w, i32_w]
         rfl
        refine one_ (i := 2) (N := some 56) #[true, true, true, false, false] rfl rfl (by kernel_rfl) (by decide) (fun K hK => ?_)
        refine goes_ Try.func10 (by kernel_rfl) rfl #[.agg #[.slice A0_0 l0_0.length c0_0, .slice A0_1 l0_1.length c0_1]] (by rfl) rfl rfl (by (try simp only [List.map_toArray, List.map_cons, List.map_nil]); first | done | rfl | (simp only [List.length_drop, List.length_take]; rfl)) ?_
        with_reducible refine (laws_toArray.calls kj24 _ _ l0_0 _ _ l0_1 t403 t406 _ ?side1 ?side2 ?side3 ?side4 A94.out).mono ?_
        (case side1 => exact cU (Kd.C_below HR0_0.out HB.out))
        (case side2 => exact HC0_0.out)
        (case side3 => exact cU (Kd.C_below HR0_1.out HB.out))
        (case side4 => exact HC0_1.out)
        rintro e w104 ⟨v404, v407, rfl, ho0, ho1, hb⟩
        refine ⟨_, rfl, ?_⟩
        have HO405 := Aside0.mk (Kd.R_lower (Kd.R_new' (Kd.R_new' (Kd.R_new' (Kd.R_new' (Kd.R_new' (Kd.R_new' (Kd.R_new' (Kd.R_new' ho0 (Kd.R_lt (RU HO_380000.out))) (Kd.R_lt (RU HO_380001.out))) (Kd.R_lt (RU HO_387000.out))) (Kd.R_lt (RU HO_387001.out))) (Kd.R_lt (RU HO_394000.out))) (Kd.R_lt (RU HO_394001.out))) (Kd.R_lt (RU HO_402000.out))) (Kd.R_lt (RU HO_402001.out))) (below_size (by repeat (first | (with_reducible first | exact HB.out | apply below_alloc | apply pw_below_drewN | apply below_drew1 | refine below_set ?_ GE356.out | refine below_set ?_ GE357.out | refine below_set ?_ GE379.out | refine below_set ?_ GE386.out | refine below_set ?_ GE393.out | refine below_set ?_ GE401.out) | exact HB.out))))
        have HO408 := Aside0.mk (Kd.R_lower (Kd.R_new' (Kd.R_new' (Kd.R_new' (Kd.R_new' (Kd.R_new' (Kd.R_new' (Kd.R_new' (Kd.R_new' ho1 (Kd.R_lt (RU HO_380000.out))) (Kd.R_lt (RU HO_380001.out))) (Kd.R_lt (RU HO_387000.out))) (Kd.R_lt (RU HO_387001.out))) (Kd.R_lt (RU HO_394000.out))) (Kd.R_lt (RU HO_394001.out))) (Kd.R_lt (RU HO_402000.out))) (Kd.R_lt (RU HO_402001.out))) (below_size (by repeat (first | (with_reducible first | exact HB.out | apply below_alloc | apply pw_below_drewN | apply below_drew1 | refine below_set ?_ GE356.out | refine below_set ?_ GE357.out | refine below_set ?_ GE379.out | refine below_set ?_ GE386.out | refine below_set ?_ GE393.out | refine below_set ?_ GE401.out) | exact HB.out))))
        replace HO_380000 := Aside0.mk (Kd.R_mono (Kd.R_told (Kd.R_told (Kd.R_old (RU HO_380000.out) hb) (Kd.R_base ho0)) (Kd.R_base ho1)) (fun _ h_ => h_.1))
        replace HO_380001 := Aside0.mk (Kd.R_mono (Kd.R_told (Kd.R_told (Kd.R_old (RU HO_380001.out) hb) (Kd.R_base ho0)) (Kd.R_base ho1)) (fun _ h_ => h_.1))
        replace HO_387000 := Aside0.mk (Kd.R_mono (Kd.R_told (Kd.R_told (Kd.R_old (RU HO_387000.out) hb) (Kd.R_base ho0)) (Kd.R_base ho1)) (fun _ h_ => h_.1))
        replace HO_387001 := Aside0.mk (Kd.R_mono (Kd.R_told (Kd.R_told (Kd.R_old (RU HO_387001.out) hb) (Kd.R_base ho0)) (Kd.R_base ho1)) (fun _ h_ => h_.1))
        replace HO_394000 := Aside0.mk (Kd.R_mono (Kd.R_told (Kd.R_told (Kd.R_old (RU HO_394000.out) hb) (Kd.R_base ho0)) (Kd.R_base ho1)) (fun _ h_ => h_.1))
        replace HO_394001 := Aside0.mk (Kd.R_mono (Kd.R_told (Kd.R_told (Kd.R_old (RU HO_394001.out) hb) (Kd.R_base ho0)) (Kd.R_base ho1)) (fun _ h_ => h_.1))
        replace HO_402000 := Aside0.mk (Kd.R_mono (Kd.R_told (Kd.R_told (Kd.R_old (RU HO_402000.out) hb) (Kd.R_base ho0)) (Kd.R_base ho1)) (fun _ h_ => h_.1))
        replace HO_402001 := Aside0.mk (Kd.R_mono (Kd.R_told (Kd.R_told (Kd.R_old (RU HO_402001.out) hb) (Kd.R_base ho0)) (Kd.R_base ho1)) (fun _ h_ => h_.1))
        replace BK356 := Aside0.mk (blk_below (g := gb356) (o := .cells #[.slice A0_0 l0_0.length c0_0, .slice A0_1 l0_1.length c0_1] 24 (0, 0)) (kU BK356.out) hb)
        replace BK357 := Aside0.mk (blk_below (g := gb357) (o := .cells #[.slice A1_0 l1_0.length c1_0, .slice A1_1 l1_1.length c1_1] 24 (0, 0)) (kU BK357.out) hb)
        replace BK379 := Aside0.mk (blk_below (g := gb379) (o := .cells #[.slice Ao43 t372.length co43, .slice Ao45 t375.length co45] 26 (0, 0)) (kU BK379.out) hb)
        replace BK386 := Aside0.mk (blk_below (g := gb386) (o := .cells #[.slice Ao51 t380.length co51, .slice Ao56 t383.length co56] 26 (0, 0)) (kU BK386.out) hb)
        replace BK393 := Aside0.mk (blk_below (g := gb393) (o := .cells #[.slice Ao61 t387.length co61, .slice Ao67 t390.length co67] 26 (0, 0)) (kU BK393.out) hb)
        replace BK401 := Aside0.mk (blk_below (g := gb401) (o := .cells #[.slice Ao71 t394.length co71, .slice Ao78 t397.length co78] 26 (0, 0)) (kU BK401.out) hb)
        replace HB := Aside0.mk (below_step (by repeat (first | (with_reducible first | exact HB.out | apply below_alloc | apply pw_below_drewN | apply below_drew1 | refine below_set ?_ GE356.out | refine below_set ?_ GE357.out | refine below_set ?_ GE379.out | refine below_set ?_ GE386.out | refine below_set ?_ GE393.out | refine below_set ?_ GE401.out) | exact HB.out)) hb)
        (try clear hb)
        (try clear hb2)
        (try clear hk)
        (try clear hi)
        (try clear ho0)
        (try clear ho1)
        obtain ⟨Ao105, co105, eo105⟩ := Kd.R_slice HO405.out
        (first | subst eo105 | (injection eo105 with f1_ f2_ f3_; have f4_ := f1_.symm; have f5_ := f3_.symm; clear f1_ f2_ f3_; subst f4_; subst f5_))
        obtain ⟨Ao106, co106, eo106⟩ := Kd.R_slice HO408.out
        (first | subst eo106 | (injection eo106 with f1_ f2_ f3_; have f4_ := f1_.symm; have f5_ := f3_.symm; clear f1_ f2_ f3_; subst f4_; subst f5_))
        refine hK.out _ _ ⟨(blk_cell BK386.out 0).trans rfl, (blk_cell BK386.out 1).trans rfl, (blk_cell BK356.out 0).trans rfl, (blk_cell BK356.out 1).trans rfl⟩ (fun hHeld => ?_)
        clear hK K
        refine norm_ (a' := ?_) ?_ ?_
        rotate_left
        ·
         show Act.put _ (some 56) _ = _
         simp only [Act.put, List.setIfInBounds_toArray, List.set_cons_zero, List.set_cons_succ, i64_w, i32_w]
         rfl
        refine one_ (i := 3) (N := some 57) #[true, true, true, true, false] rfl rfl (by kernel_rfl) (by decide) (fun K hK => ?_)
        refine goes_ Try.func12 (by kernel_rfl) rfl #[.agg #[.slice Ao51 t380.length co51, .slice Ao56 t383.length co56], .agg #[.slice Ao105 t403.length co105, .slice Ao106 t406.length co106]] (by rfl) rfl rfl (by (try simp only [List.map_toArray, List.map_cons, List.map_nil]); first | done | rfl | (simp only [List.length_drop, List.length_take]; rfl)) ?_
        with_reducible refine (laws_eqArray.calls kj24 _ _ t380 _ _ t383 _ _ t403 _ _ t406 true _ ?side1 ?side2 ?side3 ?side4 ?side5 ?side6 ?side7 ?side8 A95.out).mono ?_
        (case side1 => exact cU (Kd.R_reads' HO_387000.out).2.2)
        (case side2 => exact (Kd.R_reads' HO_387000.out).2.1)
        (case side3 => exact cU (Kd.R_reads' HO_387001.out).2.2)
        (case side4 => exact (Kd.R_reads' HO_387001.out).2.1)
        (case side5 => exact cU (Kd.R_reads' HO405.out).2.2)
        (case side6 => exact (Kd.R_reads' HO405.out).2.1)
        (case side7 => exact cU (Kd.R_reads' HO408.out).2.2)
        (case side8 => exact (Kd.R_reads' HO408.out).2.1)
        rintro e w107 ⟨rfl, hb⟩
        refine ⟨_, rfl, ?_⟩
        replace HO_380000 := Aside0.mk (Kd.R_below (RU HO_380000.out) hb)
        replace HO_380001 := Aside0.mk (Kd.R_below (RU HO_380001.out) hb)
        replace HO_387000 := Aside0.mk (Kd.R_below (RU HO_387000.out) hb)
        replace HO_387001 := Aside0.mk (Kd.R_below (RU HO_387001.out) hb)
        replace HO_394000 := Aside0.mk (Kd.R_below (RU HO_394000.out) hb)
        replace HO_394001 := Aside0.mk (Kd.R_below (RU HO_394001.out) hb)
        replace HO_402000 := Aside0.mk (Kd.R_below (RU HO_402000.out) hb)
        replace HO_402001 := Aside0.mk (Kd.R_below (RU HO_402001.out) hb)
        replace HO405 := Aside0.mk (Kd.R_below (RU HO405.out) hb)
        replace HO408 := Aside0.mk (Kd.R_below (RU HO408.out) hb)
        replace BK356 := Aside0.mk (blk_below (g := gb356) (o := .cells #[.slice A0_0 l0_0.length c0_0, .slice A0_1 l0_1.length c0_1] 24 (0, 0)) (kU BK356.out) hb)
        replace BK357 := Aside0.mk (blk_below (g := gb357) (o := .cells #[.slice A1_0 l1_0.length c1_0, .slice A1_1 l1_1.length c1_1] 24 (0, 0)) (kU BK357.out) hb)
        replace BK379 := Aside0.mk (blk_below (g := gb379) (o := .cells #[.slice Ao43 t372.length co43, .slice Ao45 t375.length co45] 26 (0, 0)) (kU BK379.out) hb)
        replace BK386 := Aside0.mk (blk_below (g := gb386) (o := .cells #[.slice Ao51 t380.length co51, .slice Ao56 t383.length co56] 26 (0, 0)) (kU BK386.out) hb)
        replace BK393 := Aside0.mk (blk_below (g := gb393) (o := .cells #[.slice Ao61 t387.length co61, .slice Ao67 t390.length co67] 26 (0, 0)) (kU BK393.out) hb)
        replace BK401 := Aside0.mk (blk_below (g := gb401) (o := .cells #[.slice Ao71 t394.length co71, .slice Ao78 t397.length co78] 26 (0, 0)) (kU BK401.out) hb)
        replace HB := Aside0.mk (below_step (by repeat (first | (with_reducible first | exact HB.out | apply below_alloc | apply pw_below_drewN | apply below_drew1 | refine below_set ?_ GE356.out | refine below_set ?_ GE357.out | refine below_set ?_ GE379.out | refine below_set ?_ GE386.out | refine below_set ?_ GE393.out | refine below_set ?_ GE401.out) | exact HB.out)) hb)
        (try clear hb)
        (try clear hb2)
        (try clear hk)
        (try clear hi)
        refine hK.out _ _ ⟨(blk_cell BK386.out 0).trans rfl, (blk_cell BK386.out 1).trans rfl, (blk_cell BK356.out 0).trans rfl, (blk_cell BK356.out 1).trans rfl⟩ (fun hHeld => ?_)
        clear hK K
        refine norm_ (a' := ?_) ?_ ?_
        rotate_left
        ·
         show Act.put _ (some 57) _ = _
         simp only [Act.put, List.setIfInBounds_toArray, List.set_cons_zero, List.set_cons_succ, i64_w, i32_w]
         rfl
        refine pure_ (i := 4) (N := some 58) (v := ?_) (a' := ?_) #[true, true, true, true, true] rfl rfl (by kernel_rfl) (fun _ _ _ h => h) (Or.inl ⟨by rfl, ?_⟩) ?_ ?_
        rotate_left
        ·
         intro w'
         go_simp
         with_reducible rfl
        rotate_left
        ·
         simp only [Act.put, List.setIfInBounds_toArray, List.set_cons_zero, List.set_cons_succ, i64_w, i32_w]
         rfl
        refine done_ (by kernel_rfl) ?_
        try go_wp2
        replace HO_380000 := Aside0.mk (Kd.R_drew HO_380000.out)
        replace HO_380001 := Aside0.mk (Kd.R_drew HO_380001.out)
        replace HO_387000 := Aside0.mk (Kd.R_drew HO_387000.out)
        replace HO_387001 := Aside0.mk (Kd.R_drew HO_387001.out)
        replace HO_394000 := Aside0.mk (Kd.R_drew HO_394000.out)
        replace HO_394001 := Aside0.mk (Kd.R_drew HO_394001.out)
        replace HO_402000 := Aside0.mk (Kd.R_drew HO_402000.out)
        replace HO_402001 := Aside0.mk (Kd.R_drew HO_402001.out)
        replace HO405 := Aside0.mk (Kd.R_drew HO405.out)
        replace HO408 := Aside0.mk (Kd.R_drew HO408.out)
        replace BK356 := Aside0.mk (blk_drew BK356.out)
        replace BK357 := Aside0.mk (blk_drew BK357.out)
        replace BK379 := Aside0.mk (blk_drew BK379.out)
        replace BK386 := Aside0.mk (blk_drew BK386.out)
        replace BK393 := Aside0.mk (blk_drew BK393.out)
        replace BK401 := Aside0.mk (blk_drew BK401.out)
        replace HB := Aside0.mk (below_drew1 HB.out)
        refine start_ (n := 5) (S := fun w' => w'.cell? ⟨gb393, 0, none⟩ = some (.slice Ao61 t387.length co61) ∧ w'.cell? ⟨gb393, 1, none⟩ = some (.slice Ao67 t390.length co67) ∧ w'.cell? ⟨gb357, 0, none⟩ = some (.slice A1_0 l1_0.length c1_0) ∧ w'.cell? ⟨gb357, 1, none⟩ = some (.slice A1_1 l1_1.length c1_1)) (ds := []) #[false, false, false, false, false] (by kernel_rfl) rfl rfl ⟨(blk_cell BK393.out 0).trans rfl, (blk_cell BK393.out 1).trans rfl, (blk_cell BK357.out 0).trans rfl, (blk_cell BK357.out 1).trans rfl⟩ (fun hHeld => ?_)
        generalize w107.drew = w108 at HO_380000 HO_380001 HO_387000 HO_387001 HO_394000 HO_394001 HO_402000 HO_402001 HO405 HO408 BK356 BK357 BK379 BK386 BK393 BK401 HB hHeld ⊢
        refine take_ (i := 0) (N := some 59) (v := ?_) (a' := ?_) #[true, false, false, false, false] rfl rfl (by kernel_rfl) (fun _ _ _ h => h) (Or.inl ⟨by rfl, ?_⟩) hHeld ?_ ?_
        rotate_left
        ·
         rintro w' ⟨s0, s1, s2, s3⟩
         go_simp
         with_reducible rfl
        rotate_left
        ·
         simp only [Act.put, List.setIfInBounds_toArray, List.set_cons_zero, List.set_cons_succ, i64_w, i32_w]
         rfl
        refine take_ (i := 1) (N := some 60) (v := ?_) (a' := ?_) #[true, true, false, false, false] rfl rfl (by kernel_rfl) (fun _ _ _ h => h) (Or.inl ⟨by rfl, ?_⟩) hHeld ?_ ?_
        rotate_left
        ·
         rintro w' ⟨s0, s1, s2, s3⟩
         go_simp
         with_reducible rfl
        rotate_left
        ·
         simp only [Act.put, List.setIfInBounds_toArray, List.set_cons_zero, List.set_cons_succ, i64_w, i32_w]
         rfl
        refine one_ (i := 2) (N := some 61) #[true, true, true, false, false] rfl rfl (by kernel_rfl) (by decide) (fun K hK => ?_)
        refine goes_ Try.func10 (by kernel_rfl) rfl #[.agg #[.slice A1_0 l1_0.length c1_0, .slice A1_1 l1_1.length c1_1]] (by rfl) rfl rfl (by (try simp only [List.map_toArray, List.map_cons, List.map_nil]); first | done | rfl | (simp only [List.length_drop, List.length_take]; rfl)) ?_
        with_reducible refine (laws_toArray.calls kj24 _ _ l1_0 _ _ l1_1 t410 t413 _ ?side1 ?side2 ?side3 ?side4 A97.out).mono ?_
        (case side1 => exact cU (Kd.C_below HR1_0.out HB.out))
        (case side2 => exact HC1_0.out)
        (case side3 => exact cU (Kd.C_below HR1_1.out HB.out))
        (case side4 => exact HC1_1.out)
        rintro e w109 ⟨v411, v414, rfl, ho0, ho1, hb⟩
        refine ⟨_, rfl, ?_⟩
        have HO412 := Aside0.mk (Kd.R_lower (Kd.R_new' (Kd.R_new' (Kd.R_new' (Kd.R_new' (Kd.R_new' (Kd.R_new' (Kd.R_new' (Kd.R_new' (Kd.R_new' (Kd.R_new' ho0 (Kd.R_lt (RU HO_380000.out))) (Kd.R_lt (RU HO_380001.out))) (Kd.R_lt (RU HO_387000.out))) (Kd.R_lt (RU HO_387001.out))) (Kd.R_lt (RU HO_394000.out))) (Kd.R_lt (RU HO_394001.out))) (Kd.R_lt (RU HO_402000.out))) (Kd.R_lt (RU HO_402001.out))) (Kd.R_lt (RU HO405.out))) (Kd.R_lt (RU HO408.out))) (below_size (by repeat (first | (with_reducible first | exact HB.out | apply below_alloc | apply pw_below_drewN | apply below_drew1 | refine below_set ?_ GE356.out | refine below_set ?_ GE357.out | refine below_set ?_ GE379.out | refine below_set ?_ GE386.out | refine below_set ?_ GE393.out | refine below_set ?_ GE401.out) | exact HB.out))))
        have HO415 := Aside0.mk (Kd.R_lower (Kd.R_new' (Kd.R_new' (Kd.R_new' (Kd.R_new' (Kd.R_new' (Kd.R_new' (Kd.R_new' (Kd.R_new' (Kd.R_new' (Kd.R_new' ho1 (Kd.R_lt (RU HO_380000.out))) (Kd.R_lt (RU HO_380001.out))) (Kd.R_lt (RU HO_387000.out))) (Kd.R_lt (RU HO_387001.out))) (Kd.R_lt (RU HO_394000.out))) (Kd.R_lt (RU HO_394001.out))) (Kd.R_lt (RU HO_402000.out))) (Kd.R_lt (RU HO_402001.out))) (Kd.R_lt (RU HO405.out))) (Kd.R_lt (RU HO408.out))) (below_size (by repeat (first | (with_reducible first | exact HB.out | apply below_alloc | apply pw_below_drewN | apply below_drew1 | refine below_set ?_ GE356.out | refine below_set ?_ GE357.out | refine below_set ?_ GE379.out | refine below_set ?_ GE386.out | refine below_set ?_ GE393.out | refine below_set ?_ GE401.out) | exact HB.out))))
        replace HO_380000 := Aside0.mk (Kd.R_mono (Kd.R_told (Kd.R_told (Kd.R_old (RU HO_380000.out) hb) (Kd.R_base ho0)) (Kd.R_base ho1)) (fun _ h_ => h_.1))
        replace HO_380001 := Aside0.mk (Kd.R_mono (Kd.R_told (Kd.R_told (Kd.R_old (RU HO_380001.out) hb) (Kd.R_base ho0)) (Kd.R_base ho1)) (fun _ h_ => h_.1))
        replace HO_387000 := Aside0.mk (Kd.R_mono (Kd.R_told (Kd.R_told (Kd.R_old (RU HO_387000.out) hb) (Kd.R_base ho0)) (Kd.R_base ho1)) (fun _ h_ => h_.1))
        replace HO_387001 := Aside0.mk (Kd.R_mono (Kd.R_told (Kd.R_told (Kd.R_old (RU HO_387001.out) hb) (Kd.R_base ho0)) (Kd.R_base ho1)) (fun _ h_ => h_.1))
        replace HO_394000 := Aside0.mk (Kd.R_mono (Kd.R_told (Kd.R_told (Kd.R_old (RU HO_394000.out) hb) (Kd.R_base ho0)) (Kd.R_base ho1)) (fun _ h_ => h_.1))
        replace HO_394001 := Aside0.mk (Kd.R_mono (Kd.R_told (Kd.R_told (Kd.R_old (RU HO_394001.out) hb) (Kd.R_base ho0)) (Kd.R_base ho1)) (fun _ h_ => h_.1))
        replace HO_402000 := Aside0.mk (Kd.R_mono (Kd.R_told (Kd.R_told (Kd.R_old (RU HO_402000.out) hb) (Kd.R_base ho0)) (Kd.R_base ho1)) (fun _ h_ => h_.1))
        replace HO_402001 := Aside0.mk (Kd.R_mono (Kd.R_told (Kd.R_told (Kd.R_old (RU HO_402001.out) hb) (Kd.R_base ho0)) (Kd.R_base ho1)) (fun _ h_ => h_.1))
        replace HO405 := Aside0.mk (Kd.R_mono (Kd.R_told (Kd.R_told (Kd.R_old (RU HO405.out) hb) (Kd.R_base ho0)) (Kd.R_base ho1)) (fun _ h_ => h_.1))
        replace HO408 := Aside0.mk (Kd.R_mono (Kd.R_told (Kd.R_told (Kd.R_old (RU HO408.out) hb) (Kd.R_base ho0)) (Kd.R_base ho1)) (fun _ h_ => h_.1))
        replace BK356 := Aside0.mk (blk_below (g := gb356) (o := .cells #[.slice A0_0 l0_0.length c0_0, .slice A0_1 l0_1.length c0_1] 24 (0, 0)) (kU BK356.out) hb)
        replace BK357 := Aside0.mk (blk_below (g := gb357) (o := .cells #[.slice A1_0 l1_0.length c1_0, .slice A1_1 l1_1.length c1_1] 24 (0, 0)) (kU BK357.out) hb)
        replace BK379 := Aside0.mk (blk_below (g := gb379) (o := .cells #[.slice Ao43 t372.length co43, .slice Ao45 t375.length co45] 26 (0, 0)) (kU BK379.out) hb)
        replace BK386 := Aside0.mk (blk_below (g := gb386) (o := .cells #[.slice Ao51 t380.length co51, .slice Ao56 t383.length co56] 26 (0, 0)) (kU BK386.out) hb)
        replace BK393 := Aside0.mk (blk_below (g := gb393) (o := .cells #[.slice Ao61 t387.length co61, .slice Ao67 t390.length co67] 26 (0, 0)) (kU BK393.out) hb)
        replace BK401 := Aside0.mk (blk_below (g := gb401) (o := .cells #[.slice Ao71 t394.length co71, .slice Ao78 t397.length co78] 26 (0, 0)) (kU BK401.out) hb)
        replace HB := Aside0.mk (below_step (by repeat (first | (with_reducible first | exact HB.out | apply below_alloc | apply pw_below_drewN | apply below_drew1 | refine below_set ?_ GE356.out | refine below_set ?_ GE357.out | refine below_set ?_ GE379.out | refine below_set ?_ GE386.out | refine below_set ?_ GE393.out | refine below_set ?_ GE401.out) | exact HB.out)) hb)
        (try clear hb)
        (try clear hb2)
        (try clear hk)
        (try clear hi)
        (try clear ho0)
        (try clear ho1)
        obtain ⟨Ao110, co110, eo110⟩ := Kd.R_slice HO412.out
        (first | subst eo110 | (injection eo110 with f1_ f2_ f3_; have f4_ := f1_.symm; have f5_ := f3_.symm; clear f1_ f2_ f3_; subst f4_; subst f5_))
        obtain ⟨Ao111, co111, eo111⟩ := Kd.R_slice HO415.out
        (first | subst eo111 | (injection eo111 with f1_ f2_ f3_; have f4_ := f1_.symm; have f5_ := f3_.symm; clear f1_ f2_ f3_; subst f4_; subst f5_))
        refine hK.out _ _ ⟨(blk_cell BK393.out 0).trans rfl, (blk_cell BK393.out 1).trans rfl, (blk_cell BK357.out 0).trans rfl, (blk_cell BK357.out 1).trans rfl⟩ (fun hHeld => ?_)
        clear hK K
        refine norm_ (a' := ?_) ?_ ?_
        rotate_left
        ·
         show Act.put _ (some 61) _ = _
         simp only [Act.put, List.setIfInBounds_toArray, List.set_cons_zero, List.set_cons_succ, i64_w, i32_w]
         rfl
        refine one_ (i := 3) (N := some 62) #[true, true, true, true, false] rfl rfl (by kernel_rfl) (by decide) (fun K hK => ?_)
        refine goes_ Try.func12 (by kernel_rfl) rfl #[.agg #[.slice Ao61 t387.length co61, .slice Ao67 t390.length co67], .agg #[.slice Ao110 t410.length co110, .slice Ao111 t413.length co111]] (by rfl) rfl rfl (by (try simp only [List.map_toArray, List.map_cons, List.map_nil]); first | done | rfl | (simp only [List.length_drop, List.length_take]; rfl)) ?_
        with_reducible refine (laws_eqArray.calls kj24 _ _ t387 _ _ t390 _ _ t410 _ _ t413 true _ ?side1 ?side2 ?side3 ?side4 ?side5 ?side6 ?side7 ?side8 A98.out).mono ?_
        (case side1 => exact cU (Kd.R_reads' HO_394000.out).2.2)
        (case side2 => exact (Kd.R_reads' HO_394000.out).2.1)
        (case side3 => exact cU (Kd.R_reads' HO_394001.out).2.2)
        (case side4 => exact (Kd.R_reads' HO_394001.out).2.1)
        (case side5 => exact cU (Kd.R_reads' HO412.out).2.2)
        (case side6 => exact (Kd.R_reads' HO412.out).2.1)
        (case side7 => exact cU (Kd.R_reads' HO415.out).2.2)
        (case side8 => exact (Kd.R_reads' HO415.out).2.1)
        rintro e w112 ⟨rfl, hb⟩
        refine ⟨_, rfl, ?_⟩
        replace HO_380000 := Aside0.mk (Kd.R_below (RU HO_380000.out) hb)
        replace HO_380001 := Aside0.mk (Kd.R_below (RU HO_380001.out) hb)
        replace HO_387000 := Aside0.mk (Kd.R_below (RU HO_387000.out) hb)
        replace HO_387001 := Aside0.mk (Kd.R_below (RU HO_387001.out) hb)
        replace HO_394000 := Aside0.mk (Kd.R_below (RU HO_394000.out) hb)
        replace HO_394001 := Aside0.mk (Kd.R_below (RU HO_394001.out) hb)
        replace HO_402000 := Aside0.mk (Kd.R_below (RU HO_402000.out) hb)
        replace HO_402001 := Aside0.mk (Kd.R_below (RU HO_402001.out) hb)
        replace HO405 := Aside0.mk (Kd.R_below (RU HO405.out) hb)
        replace HO408 := Aside0.mk (Kd.R_below (RU HO408.out) hb)
        replace HO412 := Aside0.mk (Kd.R_below (RU HO412.out) hb)
        replace HO415 := Aside0.mk (Kd.R_below (RU HO415.out) hb)
        replace BK356 := Aside0.mk (blk_below (g := gb356) (o := .cells #[.slice A0_0 l0_0.length c0_0, .slice A0_1 l0_1.length c0_1] 24 (0, 0)) (kU BK356.out) hb)
        replace BK357 := Aside0.mk (blk_below (g := gb357) (o := .cells #[.slice A1_0 l1_0.length c1_0, .slice A1_1 l1_1.length c1_1] 24 (0, 0)) (kU BK357.out) hb)
        replace BK379 := Aside0.mk (blk_below (g := gb379) (o := .cells #[.slice Ao43 t372.length co43, .slice Ao45 t375.length co45] 26 (0, 0)) (kU BK379.out) hb)
        replace BK386 := Aside0.mk (blk_below (g := gb386) (o := .cells #[.slice Ao51 t380.length co51, .slice Ao56 t383.length co56] 26 (0, 0)) (kU BK386.out) hb)
        replace BK393 := Aside0.mk (blk_below (g := gb393) (o := .cells #[.slice Ao61 t387.length co61, .slice Ao67 t390.length co67] 26 (0, 0)) (kU BK393.out) hb)
        replace BK401 := Aside0.mk (blk_below (g := gb401) (o := .cells #[.slice Ao71 t394.length co71, .slice Ao78 t397.length co78] 26 (0, 0)) (kU BK401.out) hb)
        replace HB := Aside0.mk (below_step (by repeat (first | (with_reducible first | exact HB.out | apply below_alloc | apply pw_below_drewN | apply below_drew1 | refine below_set ?_ GE356.out | refine below_set ?_ GE357.out | refine below_set ?_ GE379.out | refine below_set ?_ GE386.out | refine below_set ?_ GE393.out | refine below_set ?_ GE401.out) | exact HB.out)) hb)
        (try clear hb)
        (try clear hb2)
        (try clear hk)
        (try clear hi)
        refine hK.out _ _ ⟨(blk_cell BK393.out 0).trans rfl, (blk_cell BK393.out 1).trans rfl, (blk_cell BK357.out 0).trans rfl, (blk_cell BK357.out 1).trans rfl⟩ (fun hHeld => ?_)
        clear hK K
        refine norm_ (a' := ?_) ?_ ?_
        rotate_left
        ·
         show Act.put _ (some 62) _ = _
         simp only [Act.put, List.setIfInBounds_toArray, List.set_cons_zero, List.set_cons_succ, i64_w, i32_w]
         rfl
        refine pure_ (i := 4) (N := some 63) (v := ?_) (a' := ?_) #[true, true, true, true, true] rfl rfl (by kernel_rfl) (fun _ _ _ h => h) (Or.inl ⟨by rfl, ?_⟩) ?_ ?_
        rotate_left
        ·
         intro w'
         go_simp
         with_reducible rfl
        rotate_left
        ·
         simp only [Act.put, List.setIfInBounds_toArray, List.set_cons_zero, List.set_cons_succ, i64_w, i32_w]
         rfl
        refine done_ (by kernel_rfl) ?_
        have hnb113 := NB386_356.out
        have hnc113 := NB356_386.out
        have hnb114 := NB386_357.out
        have hnc114 := NB357_386.out
        have hnb115 := NB386_379.out
        have hnc115 := NB379_386.out
        have hnb116 := NB386_393.out
        have hnc116 := NB393_386.out
        have hnb117 := NB386_401.out
        have hnc117 := NB401_386.out
        have hcz118_0 : w112.cell? ⟨gb386, 0, none⟩ = some (.slice Ao51 t380.length co51) := (blk_cell BK386.out 0).trans rfl
        have hcz118_1 : w112.cell? ⟨gb386, 1, none⟩ = some (.slice Ao56 t383.length co56) := (blk_cell BK386.out 1).trans rfl
        have hfz118_0 := blk_frozen BK386.out 0
        have hfz118_1 := blk_frozen BK386.out 1
        go_upto_region 21 with (first | ((with_reducible refine gate_callee (f := 13) rfl ?_); refine goesL_ (some 66) rfl rfl Try.func13 (by kernel_rfl) rfl #[.agg #[.slice Ao51 t380.length co51, .slice Ao56 t383.length co56], .int .i64 1] rfl (by (try simp only [List.map_toArray, List.map_cons, List.map_nil]); first | done | rfl | (simp only [List.length_drop, List.length_take]; rfl)) ?_; (with_reducible refine (laws_markArray.calls kj24 (fun k_ => some k_ = (.slice Ao51 t380.length co51 : Value).ownBlock) (.slice Ao51 t380.length co51) t380 (fun k_ => some k_ = (.slice Ao56 t383.length co56 : Value).ownBlock) (.slice Ao56 t383.length co56) t383 1 t417 t418 t419 w _ ?side1 ?side2 ?side3 ?side4 ?side5 A100.out).mono ?_); (case side1 => repeat (first | (with_reducible first | exact HB.out | apply below_alloc | apply pw_below_drewN | apply below_drew1 | refine below_set ?_ GE356.out | refine below_set ?_ GE357.out | refine below_set ?_ GE379.out | refine below_set ?_ GE386.out | refine below_set ?_ GE393.out | refine below_set ?_ GE401.out) | exact HB.out)); (case side2 => exact Kd.R_tight rfl HO_387000.out); (case side3 => exact fun k_ e_ => (HO_387000.out.1 k_ e_.symm).1.1.1.1.2.2.1); (case side4 => exact Kd.R_tight rfl HO_387001.out); (case side5 => exact fun k_ e_ => (HO_387001.out.1 k_ e_.symm).1.1.1.1.2.2.1); rintro e w119 ⟨rfl, hy0, hy1, hb, hkp⟩; refine ⟨_, rfl, ?_⟩; replace HO_380000 := Aside0.mk (Kd.R_mono (ok' := fun k_ => some k_ ≠ (.slice Ao45 t375.length co45 : Value).ownBlock ∧ some k_ ≠ (.slice Ao51 t380.length co51 : Value).ownBlock ∧ some k_ ≠ (.slice Ao56 t383.length co56 : Value).ownBlock ∧ some k_ ≠ (.slice Ao61 t387.length co61 : Value).ownBlock ∧ some k_ ≠ (.slice Ao67 t390.length co67 : Value).ownBlock ∧ some k_ ≠ (.slice Ao71 t394.length co71 : Value).ownBlock ∧ some k_ ≠ (.slice Ao78 t397.length co78 : Value).ownBlock ∧ some k_ ≠ (.slice Ao105 t403.length co105 : Value).ownBlock ∧ some k_ ≠ (.slice Ao106 t406.length co106 : Value).ownBlock ∧ some k_ ≠ (.slice Ao110 t410.length co110 : Value).ownBlock ∧ some k_ ≠ (.slice Ao111 t413.length co111 : Value).ownBlock) (Kd.R_keptB (HO_380000.out) hkp (fun k_ hk_ hs_ => Or.elim hs_ (fun e_ => (hk_.1.1.1.1.2.1) e_) (fun e_ => (hk_.1.1.1.1.2.2.1) e_))) (fun k_ hk_ => ⟨hk_.1.1.1.1.1.1, hk_.1.1.1.1.1.2.1, hk_.1.1.1.1.1.2.2.1, hk_.1.1.1.1.1.2.2.2.1, hk_.1.1.1.1.1.2.2.2.2.1, hk_.1.1.1.1.1.2.2.2.2.2.1, hk_.1.1.1.1.1.2.2.2.2.2.2, hk_.1.1.1.1.2, hk_.1.1.1.2, hk_.1.1.2, hk_.1.2⟩)); replace HO_380001 := Aside0.mk (Kd.R_mono (ok' := fun k_ => some k_ ≠ (.slice Ao43 t372.length co43 : Value).ownBlock ∧ some k_ ≠ (.slice Ao51 t380.length co51 : Value).ownBlock ∧ some k_ ≠ (.slice Ao56 t383.length co56 : Value).ownBlock ∧ some k_ ≠ (.slice Ao61 t387.length co61 : Value).ownBlock ∧ some k_ ≠ (.slice Ao67 t390.length co67 : Value).ownBlock ∧ some k_ ≠ (.slice Ao71 t394.length co71 : Value).ownBlock ∧ some k_ ≠ (.slice Ao78 t397.length co78 : Value).ownBlock ∧ some k_ ≠ (.slice Ao105 t403.length co105 : Value).ownBlock ∧ some k_ ≠ (.slice Ao106 t406.length co106 : Value).ownBlock ∧ some k_ ≠ (.slice Ao110 t410.length co110 : Value).ownBlock ∧ some k_ ≠ (.slice Ao111 t413.length co111 : Value).ownBlock) (Kd.R_keptB (HO_380001.out) hkp (fun k_ hk_ hs_ => Or.elim hs_ (fun e_ => (hk_.1.1.1.1.2.1) e_) (fun e_ => (hk_.1.1.1.1.2.2.1) e_))) (fun k_ hk_ => ⟨hk_.1.1.1.1.1.1, hk_.1.1.1.1.1.2.1, hk_.1.1.1.1.1.2.2.1, hk_.1.1.1.1.1.2.2.2.1, hk_.1.1.1.1.1.2.2.2.2.1, hk_.1.1.1.1.1.2.2.2.2.2.1, hk_.1.1.1.1.1.2.2.2.2.2.2, hk_.1.1.1.1.2, hk_.1.1.1.2, hk_.1.1.2, hk_.1.2⟩)); replace HO_394000 := Aside0.mk (Kd.R_mono (ok' := fun k_ => some k_ ≠ (.slice Ao43 t372.length co43 : Value).ownBlock ∧ some k_ ≠ (.slice Ao45 t375.length co45 : Value).ownBlock ∧ some k_ ≠ (.slice Ao51 t380.length co51 : Value).ownBlock ∧ some k_ ≠ (.slice Ao56 t383.length co56 : Value).ownBlock ∧ some k_ ≠ (.slice Ao67 t390.length co67 : Value).ownBlock ∧ some k_ ≠ (.slice Ao71 t394.length co71 : Value).ownBlock ∧ some k_ ≠ (.slice Ao78 t397.length co78 : Value).ownBlock ∧ some k_ ≠ (.slice Ao105 t403.length co105 : Value).ownBlock ∧ some k_ ≠ (.slice Ao106 t406.length co106 : Value).ownBlock ∧ some k_ ≠ (.slice Ao110 t410.length co110 : Value).ownBlock ∧ some k_ ≠ (.slice Ao111 t413.length co111 : Value).ownBlock) (Kd.R_keptB (HO_394000.out) hkp (fun k_ hk_ hs_ => Or.elim hs_ (fun e_ => (hk_.1.1.1.1.2.2.1) e_) (fun e_ => (hk_.1.1.1.1.2.2.2.1) e_))) (fun k_ hk_ => ⟨hk_.1.1.1.1.1.1, hk_.1.1.1.1.1.2.1, hk_.1.1.1.1.1.2.2.1, hk_.1.1.1.1.1.2.2.2.1, hk_.1.1.1.1.1.2.2.2.2.1, hk_.1.1.1.1.1.2.2.2.2.2.1, hk_.1.1.1.1.1.2.2.2.2.2.2, hk_.1.1.1.1.2, hk_.1.1.1.2, hk_.1.1.2, hk_.1.2⟩)); replace HO_394001 := Aside0.mk (Kd.R_mono (ok' := fun k_ => some k_ ≠ (.slice Ao43 t372.length co43 : Value).ownBlock ∧ some k_ ≠ (.slice Ao45 t375.length co45 : Value).ownBlock ∧ some k_ ≠ (.slice Ao51 t380.length co51 : Value).ownBlock ∧ some k_ ≠ (.slice Ao56 t383.length co56 : Value).ownBlock ∧ some k_ ≠ (.slice Ao61 t387.length co61 : Value).ownBlock ∧ some k_ ≠ (.slice Ao71 t394.length co71 : Value).ownBlock ∧ some k_ ≠ (.slice Ao78 t397.length co78 : Value).ownBlock ∧ some k_ ≠ (.slice Ao105 t403.length co105 : Value).ownBlock ∧ some k_ ≠ (.slice Ao106 t406.length co106 : Value).ownBlock ∧ some k_ ≠ (.slice Ao110 t410.length co110 : Value).ownBlock ∧ some k_ ≠ (.slice Ao111 t413.length co111 : Value).ownBlock) (Kd.R_keptB (HO_394001.out) hkp (fun k_ hk_ hs_ => Or.elim hs_ (fun e_ => (hk_.1.1.1.1.2.2.1) e_) (fun e_ => (hk_.1.1.1.1.2.2.2.1) e_))) (fun k_ hk_ => ⟨hk_.1.1.1.1.1.1, hk_.1.1.1.1.1.2.1, hk_.1.1.1.1.1.2.2.1, hk_.1.1.1.1.1.2.2.2.1, hk_.1.1.1.1.1.2.2.2.2.1, hk_.1.1.1.1.1.2.2.2.2.2.1, hk_.1.1.1.1.1.2.2.2.2.2.2, hk_.1.1.1.1.2, hk_.1.1.1.2, hk_.1.1.2, hk_.1.2⟩)); replace HO_402000 := Aside0.mk (Kd.R_mono (ok' := fun k_ => some k_ ≠ (.slice Ao43 t372.length co43 : Value).ownBlock ∧ some k_ ≠ (.slice Ao45 t375.length co45 : Value).ownBlock ∧ some k_ ≠ (.slice Ao51 t380.length co51 : Value).ownBlock ∧ some k_ ≠ (.slice Ao56 t383.length co56 : Value).ownBlock ∧ some k_ ≠ (.slice Ao61 t387.length co61 : Value).ownBlock ∧ some k_ ≠ (.slice Ao67 t390.length co67 : Value).ownBlock ∧ some k_ ≠ (.slice Ao78 t397.length co78 : Value).ownBlock ∧ some k_ ≠ (.slice Ao105 t403.length co105 : Value).ownBlock ∧ some k_ ≠ (.slice Ao106 t406.length co106 : Value).ownBlock ∧ some k_ ≠ (.slice Ao110 t410.length co110 : Value).ownBlock ∧ some k_ ≠ (.slice Ao111 t413.length co111 : Value).ownBlock) (Kd.R_keptB (HO_402000.out) hkp (fun k_ hk_ hs_ => Or.elim hs_ (fun e_ => (hk_.1.1.1.1.2.2.1) e_) (fun e_ => (hk_.1.1.1.1.2.2.2.1) e_))) (fun k_ hk_ => ⟨hk_.1.1.1.1.1.1, hk_.1.1.1.1.1.2.1, hk_.1.1.1.1.1.2.2.1, hk_.1.1.1.1.1.2.2.2.1, hk_.1.1.1.1.1.2.2.2.2.1, hk_.1.1.1.1.1.2.2.2.2.2.1, hk_.1.1.1.1.1.2.2.2.2.2.2, hk_.1.1.1.1.2, hk_.1.1.1.2, hk_.1.1.2, hk_.1.2⟩)); replace HO_402001 := Aside0.mk (Kd.R_mono (ok' := fun k_ => some k_ ≠ (.slice Ao43 t372.length co43 : Value).ownBlock ∧ some k_ ≠ (.slice Ao45 t375.length co45 : Value).ownBlock ∧ some k_ ≠ (.slice Ao51 t380.length co51 : Value).ownBlock ∧ some k_ ≠ (.slice Ao56 t383.length co56 : Value).ownBlock ∧ some k_ ≠ (.slice Ao61 t387.length co61 : Value).ownBlock ∧ some k_ ≠ (.slice Ao67 t390.length co67 : Value).ownBlock ∧ some k_ ≠ (.slice Ao71 t394.length co71 : Value).ownBlock ∧ some k_ ≠ (.slice Ao105 t403.length co105 : Value).ownBlock ∧ some k_ ≠ (.slice Ao106 t406.length co106 : Value).ownBlock ∧ some k_ ≠ (.slice Ao110 t410.length co110 : Value).ownBlock ∧ some k_ ≠ (.slice Ao111 t413.length co111 : Value).ownBlock) (Kd.R_keptB (HO_402001.out) hkp (fun k_ hk_ hs_ => Or.elim hs_ (fun e_ => (hk_.1.1.1.1.2.2.1) e_) (fun e_ => (hk_.1.1.1.1.2.2.2.1) e_))) (fun k_ hk_ => ⟨hk_.1.1.1.1.1.1, hk_.1.1.1.1.1.2.1, hk_.1.1.1.1.1.2.2.1, hk_.1.1.1.1.1.2.2.2.1, hk_.1.1.1.1.1.2.2.2.2.1, hk_.1.1.1.1.1.2.2.2.2.2.1, hk_.1.1.1.1.1.2.2.2.2.2.2, hk_.1.1.1.1.2, hk_.1.1.1.2, hk_.1.1.2, hk_.1.2⟩)); replace BK356 := Aside0.mk (blk_kept (kU BK356.out) hkp (fun hs_ => Or.elim hs_ (fun e_ => (fun e_ => (Kd.R_ne HO_387000.out BK356.out (by decide)) e_) e_) (fun e_ => (fun e_ => (Kd.R_ne HO_387001.out BK356.out (by decide)) e_) e_))); replace BK357 := Aside0.mk (blk_kept (kU BK357.out) hkp (fun hs_ => Or.elim hs_ (fun e_ => (fun e_ => (Kd.R_ne HO_387000.out BK357.out (by decide)) e_) e_) (fun e_ => (fun e_ => (Kd.R_ne HO_387001.out BK357.out (by decide)) e_) e_))); replace BK379 := Aside0.mk (blk_kept (kU BK379.out) hkp (fun hs_ => Or.elim hs_ (fun e_ => (fun e_ => (Kd.R_ne HO_387000.out BK379.out (by decide)) e_) e_) (fun e_ => (fun e_ => (Kd.R_ne HO_387001.out BK379.out (by decide)) e_) e_))); replace BK386 := Aside0.mk (blk_kept (kU BK386.out) hkp (fun hs_ => Or.elim hs_ (fun e_ => (fun e_ => (Kd.R_ne HO_387000.out BK386.out (by decide)) e_) e_) (fun e_ => (fun e_ => (Kd.R_ne HO_387001.out BK386.out (by decide)) e_) e_))); replace BK393 := Aside0.mk (blk_kept (kU BK393.out) hkp (fun hs_ => Or.elim hs_ (fun e_ => (fun e_ => (Kd.R_ne HO_387000.out BK393.out (by decide)) e_) e_) (fun e_ => (fun e_ => (Kd.R_ne HO_387001.out BK393.out (by decide)) e_) e_))); replace BK401 := Aside0.mk (blk_kept (kU BK401.out) hkp (fun hs_ => Or.elim hs_ (fun e_ => (fun e_ => (Kd.R_ne HO_387000.out BK401.out (by decide)) e_) e_) (fun e_ => (fun e_ => (Kd.R_ne HO_387001.out BK401.out (by decide)) e_) e_))); replace HO_387000 := Aside0.mk (Kd.R_reok rfl hy0 (fun k_ e_ => HO_387000.out.1 k_ e_)); replace HO_387001 := Aside0.mk (Kd.R_reok rfl hy1 (fun k_ e_ => HO_387001.out.1 k_ e_)); replace HO405 := Aside0.mk (Kd.R_mono (ok' := fun k_ => some k_ ≠ (.slice Ao43 t372.length co43 : Value).ownBlock ∧ some k_ ≠ (.slice Ao45 t375.length co45 : Value).ownBlock ∧ some k_ ≠ (.slice Ao51 t380.length co51 : Value).ownBlock ∧ some k_ ≠ (.slice Ao56 t383.length co56 : Value).ownBlock ∧ some k_ ≠ (.slice Ao61 t387.length co61 : Value).ownBlock ∧ some k_ ≠ (.slice Ao67 t390.length co67 : Value).ownBlock ∧ some k_ ≠ (.slice Ao71 t394.length co71 : Value).ownBlock ∧ some k_ ≠ (.slice Ao78 t397.length co78 : Value).ownBlock ∧ some k_ ≠ (.slice Ao106 t406.length co106 : Value).ownBlock ∧ some k_ ≠ (.slice Ao110 t410.length co110 : Value).ownBlock ∧ some k_ ≠ (.slice Ao111 t413.length co111 : Value).ownBlock) (Kd.R_keptB (HO405.out) hkp (fun k_ hk_ hs_ => Or.elim hs_ (fun e_ => (hk_.1.1.1.1.1.1.1.2) e_) (fun e_ => (hk_.1.1.1.1.1.1.2) e_))) (fun k_ hk_ => ⟨hk_.1.1.1.1.1.1.1.1.1.1.2, hk_.1.1.1.1.1.1.1.1.1.2, hk_.1.1.1.1.1.1.1.1.2, hk_.1.1.1.1.1.1.1.2, hk_.1.1.1.1.1.1.2, hk_.1.1.1.1.1.2, hk_.1.1.1.1.2, hk_.1.1.1.2, hk_.1.1.1.1.1.1.1.1.1.1.1, hk_.1.1.2, hk_.1.2⟩)); replace HO408 := Aside0.mk (Kd.R_mono (ok' := fun k_ => some k_ ≠ (.slice Ao43 t372.length co43 : Value).ownBlock ∧ some k_ ≠ (.slice Ao45 t375.length co45 : Value).ownBlock ∧ some k_ ≠ (.slice Ao51 t380.length co51 : Value).ownBlock ∧ some k_ ≠ (.slice Ao56 t383.length co56 : Value).ownBlock ∧ some k_ ≠ (.slice Ao61 t387.length co61 : Value).ownBlock ∧ some k_ ≠ (.slice Ao67 t390.length co67 : Value).ownBlock ∧ some k_ ≠ (.slice Ao71 t394.length co71 : Value).ownBlock ∧ some k_ ≠ (.slice Ao78 t397.length co78 : Value).ownBlock ∧ some k_ ≠ (.slice Ao105 t403.length co105 : Value).ownBlock ∧ some k_ ≠ (.slice Ao110 t410.length co110 : Value).ownBlock ∧ some k_ ≠ (.slice Ao111 t413.length co111 : Value).ownBlock) (Kd.R_keptB (HO408.out) hkp (fun k_ hk_ hs_ => Or.elim hs_ (fun e_ => (hk_.1.1.1.1.1.1.1.2) e_) (fun e_ => (hk_.1.1.1.1.1.1.2) e_))) (fun k_ hk_ => ⟨hk_.1.1.1.1.1.1.1.1.1.1.2, hk_.1.1.1.1.1.1.1.1.1.2, hk_.1.1.1.1.1.1.1.1.2, hk_.1.1.1.1.1.1.1.2, hk_.1.1.1.1.1.1.2, hk_.1.1.1.1.1.2, hk_.1.1.1.1.2, hk_.1.1.1.2, hk_.1.1.1.1.1.1.1.1.1.1.1, hk_.1.1.2, hk_.1.2⟩)); replace HO412 := Aside0.mk (Kd.R_mono (ok' := fun k_ => some k_ ≠ (.slice Ao43 t372.length co43 : Value).ownBlock ∧ some k_ ≠ (.slice Ao45 t375.length co45 : Value).ownBlock ∧ some k_ ≠ (.slice Ao51 t380.length co51 : Value).ownBlock ∧ some k_ ≠ (.slice Ao56 t383.length co56 : Value).ownBlock ∧ some k_ ≠ (.slice Ao61 t387.length co61 : Value).ownBlock ∧ some k_ ≠ (.slice Ao67 t390.length co67 : Value).ownBlock ∧ some k_ ≠ (.slice Ao71 t394.length co71 : Value).ownBlock ∧ some k_ ≠ (.slice Ao78 t397.length co78 : Value).ownBlock ∧ some k_ ≠ (.slice Ao105 t403.length co105 : Value).ownBlock ∧ some k_ ≠ (.slice Ao106 t406.length co106 : Value).ownBlock ∧ some k_ ≠ (.slice Ao111 t413.length co111 : Value).ownBlock) (Kd.R_keptB (HO412.out) hkp (fun k_ hk_ hs_ => Or.elim hs_ (fun e_ => (hk_.1.1.1.1.1.1.1.2) e_) (fun e_ => (hk_.1.1.1.1.1.1.2) e_))) (fun k_ hk_ => ⟨hk_.1.1.1.1.1.1.1.1.1.1.2, hk_.1.1.1.1.1.1.1.1.1.2, hk_.1.1.1.1.1.1.1.1.2, hk_.1.1.1.1.1.1.1.2, hk_.1.1.1.1.1.1.2, hk_.1.1.1.1.1.2, hk_.1.1.1.1.2, hk_.1.1.1.2, hk_.1.1.2, hk_.1.2, hk_.1.1.1.1.1.1.1.1.1.1.1⟩)); replace HO415 := Aside0.mk (Kd.R_mono (ok' := fun k_ => some k_ ≠ (.slice Ao43 t372.length co43 : Value).ownBlock ∧ some k_ ≠ (.slice Ao45 t375.length co45 : Value).ownBlock ∧ some k_ ≠ (.slice Ao51 t380.length co51 : Value).ownBlock ∧ some k_ ≠ (.slice Ao56 t383.length co56 : Value).ownBlock ∧ some k_ ≠ (.slice Ao61 t387.length co61 : Value).ownBlock ∧ some k_ ≠ (.slice Ao67 t390.length co67 : Value).ownBlock ∧ some k_ ≠ (.slice Ao71 t394.length co71 : Value).ownBlock ∧ some k_ ≠ (.slice Ao78 t397.length co78 : Value).ownBlock ∧ some k_ ≠ (.slice Ao105 t403.length co105 : Value).ownBlock ∧ some k_ ≠ (.slice Ao106 t406.length co106 : Value).ownBlock ∧ some k_ ≠ (.slice Ao110 t410.length co110 : Value).ownBlock) (Kd.R_keptB (HO415.out) hkp (fun k_ hk_ hs_ => Or.elim hs_ (fun e_ => (hk_.1.1.1.1.1.1.1.2) e_) (fun e_ => (hk_.1.1.1.1.1.1.2) e_))) (fun k_ hk_ => ⟨hk_.1.1.1.1.1.1.1.1.1.1.2, hk_.1.1.1.1.1.1.1.1.1.2, hk_.1.1.1.1.1.1.1.1.2, hk_.1.1.1.1.1.1.1.2, hk_.1.1.1.1.1.1.2, hk_.1.1.1.1.1.2, hk_.1.1.1.1.2, hk_.1.1.1.2, hk_.1.1.2, hk_.1.2, hk_.1.1.1.1.1.1.1.1.1.1.1⟩)); replace HB := Aside0.mk (hb); (try clear hb); (try clear hkp); (try clear hy0); (try clear hy1); have hnb120 := NB393_356.out; have hnc120 := NB356_393.out; have hnb121 := NB393_357.out; have hnc121 := NB357_393.out; have hnb122 := NB393_379.out; have hnc122 := NB379_393.out; have hnb123 := NB393_401.out; have hnc123 := NB401_393.out; have hcz124_0 : w119.cell? ⟨gb393, 0, none⟩ = some (.slice Ao61 t387.length co61) := (blk_cell BK393.out 0).trans rfl; have hcz124_1 : w119.cell? ⟨gb393, 1, none⟩ = some (.slice Ao67 t390.length co67) := (blk_cell BK393.out 1).trans rfl; have hfz124_0 := blk_frozen BK393.out 0; have hfz124_1 := blk_frozen BK393.out 1) | ((with_reducible refine gate_callee (f := 13) rfl ?_); refine goesL_ (some 69) rfl rfl Try.func13 (by kernel_rfl) rfl #[.agg #[.slice Ao61 t387.length co61, .slice Ao67 t390.length co67], .int .i64 t417] rfl (by (try simp only [List.map_toArray, List.map_cons, List.map_nil]); first | done | rfl | (simp only [List.length_drop, List.length_take]; rfl)) ?_; (with_reducible refine (laws_markArray.calls kj24 (fun k_ => some k_ = (.slice Ao61 t387.length co61 : Value).ownBlock) (.slice Ao61 t387.length co61) t387 (fun k_ => some k_ = (.slice Ao67 t390.length co67 : Value).ownBlock) (.slice Ao67 t390.length co67) t390 t417 t420 t421 t422 w _ ?side1 ?side2 ?side3 ?side4 ?side5 A101.out).mono ?_); (case side1 => repeat (first | (with_reducible first | exact HB.out | apply below_alloc | apply pw_below_drewN | apply below_drew1 | refine below_set ?_ GE356.out | refine below_set ?_ GE357.out | refine below_set ?_ GE379.out | refine below_set ?_ GE386.out | refine below_set ?_ GE393.out | refine below_set ?_ GE401.out) | exact HB.out)); (case side2 => exact Kd.R_tight rfl HO_394000.out); (case side3 => exact fun k_ e_ => (HO_394000.out.1 k_ e_.symm).2.2.2.2.1); (case side4 => exact Kd.R_tight rfl HO_394001.out); (case side5 => exact fun k_ e_ => (HO_394001.out.1 k_ e_.symm).2.2.2.2.1); rintro e w125 ⟨rfl, hy0, hy1, hb, hkp⟩; refine ⟨_, rfl, ?_⟩; replace HO_380000 := Aside0.mk (Kd.R_mono (ok' := fun k_ => some k_ ≠ (.slice Ao45 t375.length co45 : Value).ownBlock ∧ some k_ ≠ (.slice Ao51 t380.length co51 : Value).ownBlock ∧ some k_ ≠ (.slice Ao56 t383.length co56 : Value).ownBlock ∧ some k_ ≠ (.slice Ao61 t387.length co61 : Value).ownBlock ∧ some k_ ≠ (.slice Ao67 t390.length co67 : Value).ownBlock ∧ some k_ ≠ (.slice Ao71 t394.length co71 : Value).ownBlock ∧ some k_ ≠ (.slice Ao78 t397.length co78 : Value).ownBlock ∧ some k_ ≠ (.slice Ao105 t403.length co105 : Value).ownBlock ∧ some k_ ≠ (.slice Ao106 t406.length co106 : Value).ownBlock ∧ some k_ ≠ (.slice Ao110 t410.length co110 : Value).ownBlock ∧ some k_ ≠ (.slice Ao111 t413.length co111 : Value).ownBlock) (Kd.R_keptB (HO_380000.out) hkp (fun k_ hk_ hs_ => Or.elim hs_ (fun e_ => (hk_.2.2.2.1) e_) (fun e_ => (hk_.2.2.2.2.1) e_))) (fun k_ hk_ => ⟨hk_.1.1, hk_.1.2.1, hk_.1.2.2.1, hk_.1.2.2.2.1, hk_.1.2.2.2.2.1, hk_.1.2.2.2.2.2.1, hk_.1.2.2.2.2.2.2.1, hk_.1.2.2.2.2.2.2.2.1, hk_.1.2.2.2.2.2.2.2.2.1, hk_.1.2.2.2.2.2.2.2.2.2.1, hk_.1.2.2.2.2.2.2.2.2.2.2⟩)); replace HO_380001 := Aside0.mk (Kd.R_mono (ok' := fun k_ => some k_ ≠ (.slice Ao43 t372.length co43 : Value).ownBlock ∧ some k_ ≠ (.slice Ao51 t380.length co51 : Value).ownBlock ∧ some k_ ≠ (.slice Ao56 t383.length co56 : Value).ownBlock ∧ some k_ ≠ (.slice Ao61 t387.length co61 : Value).ownBlock ∧ some k_ ≠ (.slice Ao67 t390.length co67 : Value).ownBlock ∧ some k_ ≠ (.slice Ao71 t394.length co71 : Value).ownBlock ∧ some k_ ≠ (.slice Ao78 t397.length co78 : Value).ownBlock ∧ some k_ ≠ (.slice Ao105 t403.length co105 : Value).ownBlock ∧ some k_ ≠ (.slice Ao106 t406.length co106 : Value).ownBlock ∧ some k_ ≠ (.slice Ao110 t410.length co110 : Value).ownBlock ∧ some k_ ≠ (.slice Ao111 t413.length co111 : Value).ownBlock) (Kd.R_keptB (HO_380001.out) hkp (fun k_ hk_ hs_ => Or.elim hs_ (fun e_ => (hk_.2.2.2.1) e_) (fun e_ => (hk_.2.2.2.2.1) e_))) (fun k_ hk_ => ⟨hk_.1.1, hk_.1.2.1, hk_.1.2.2.1, hk_.1.2.2.2.1, hk_.1.2.2.2.2.1, hk_.1.2.2.2.2.2.1, hk_.1.2.2.2.2.2.2.1, hk_.1.2.2.2.2.2.2.2.1, hk_.1.2.2.2.2.2.2.2.2.1, hk_.1.2.2.2.2.2.2.2.2.2.1, hk_.1.2.2.2.2.2.2.2.2.2.2⟩)); replace HO_387000 := Aside0.mk (Kd.R_mono (ok' := fun k_ => some k_ ≠ (.slice Ao43 t372.length co43 : Value).ownBlock ∧ some k_ ≠ (.slice Ao45 t375.length co45 : Value).ownBlock ∧ some k_ ≠ (.slice Ao56 t383.length co56 : Value).ownBlock ∧ some k_ ≠ (.slice Ao61 t387.length co61 : Value).ownBlock ∧ some k_ ≠ (.slice Ao67 t390.length co67 : Value).ownBlock ∧ some k_ ≠ (.slice Ao71 t394.length co71 : Value).ownBlock ∧ some k_ ≠ (.slice Ao78 t397.length co78 : Value).ownBlock ∧ some k_ ≠ (.slice Ao105 t403.length co105 : Value).ownBlock ∧ some k_ ≠ (.slice Ao106 t406.length co106 : Value).ownBlock ∧ some k_ ≠ (.slice Ao110 t410.length co110 : Value).ownBlock ∧ some k_ ≠ (.slice Ao111 t413.length co111 : Value).ownBlock) (Kd.R_keptB (HO_387000.out) hkp (fun k_ hk_ hs_ => Or.elim hs_ (fun e_ => (hk_.1.1.1.1.2.2.2.1) e_) (fun e_ => (hk_.1.1.1.1.2.2.2.2.1) e_))) (fun k_ hk_ => ⟨hk_.1.1.1.1.1.1, hk_.1.1.1.1.1.2.1, hk_.1.1.1.1.1.2.2.1, hk_.1.1.1.1.1.2.2.2.1, hk_.1.1.1.1.1.2.2.2.2.1, hk_.1.1.1.1.1.2.2.2.2.2.1, hk_.1.1.1.1.1.2.2.2.2.2.2, hk_.1.1.1.1.2, hk_.1.1.1.2, hk_.1.1.2, hk_.1.2⟩)); replace HO_387001 := Aside0.mk (Kd.R_mono (ok' := fun k_ => some k_ ≠ (.slice Ao43 t372.length co43 : Value).ownBlock ∧ some k_ ≠ (.slice Ao45 t375.length co45 : Value).ownBlock ∧ some k_ ≠ (.slice Ao51 t380.length co51 : Value).ownBlock ∧ some k_ ≠ (.slice Ao61 t387.length co61 : Value).ownBlock ∧ some k_ ≠ (.slice Ao67 t390.length co67 : Value).ownBlock ∧ some k_ ≠ (.slice Ao71 t394.length co71 : Value).ownBlock ∧ some k_ ≠ (.slice Ao78 t397.length co78 : Value).ownBlock ∧ some k_ ≠ (.slice Ao105 t403.length co105 : Value).ownBlock ∧ some k_ ≠ (.slice Ao106 t406.length co106 : Value).ownBlock ∧ some k_ ≠ (.slice Ao110 t410.length co110 : Value).ownBlock ∧ some k_ ≠ (.slice Ao111 t413.length co111 : Value).ownBlock) (Kd.R_keptB (HO_387001.out) hkp (fun k_ hk_ hs_ => Or.elim hs_ (fun e_ => (hk_.1.1.1.1.2.2.2.1) e_) (fun e_ => (hk_.1.1.1.1.2.2.2.2.1) e_))) (fun k_ hk_ => ⟨hk_.1.1.1.1.1.1, hk_.1.1.1.1.1.2.1, hk_.1.1.1.1.1.2.2.1, hk_.1.1.1.1.1.2.2.2.1, hk_.1.1.1.1.1.2.2.2.2.1, hk_.1.1.1.1.1.2.2.2.2.2.1, hk_.1.1.1.1.1.2.2.2.2.2.2, hk_.1.1.1.1.2, hk_.1.1.1.2, hk_.1.1.2, hk_.1.2⟩)); replace HO_402000 := Aside0.mk (Kd.R_mono (ok' := fun k_ => some k_ ≠ (.slice Ao43 t372.length co43 : Value).ownBlock ∧ some k_ ≠ (.slice Ao45 t375.length co45 : Value).ownBlock ∧ some k_ ≠ (.slice Ao51 t380.length co51 : Value).ownBlock ∧ some k_ ≠ (.slice Ao56 t383.length co56 : Value).ownBlock ∧ some k_ ≠ (.slice Ao61 t387.length co61 : Value).ownBlock ∧ some k_ ≠ (.slice Ao67 t390.length co67 : Value).ownBlock ∧ some k_ ≠ (.slice Ao78 t397.length co78 : Value).ownBlock ∧ some k_ ≠ (.slice Ao105 t403.length co105 : Value).ownBlock ∧ some k_ ≠ (.slice Ao106 t406.length co106 : Value).ownBlock ∧ some k_ ≠ (.slice Ao110 t410.length co110 : Value).ownBlock ∧ some k_ ≠ (.slice Ao111 t413.length co111 : Value).ownBlock) (Kd.R_keptB (HO_402000.out) hkp (fun k_ hk_ hs_ => Or.elim hs_ (fun e_ => (hk_.2.2.2.2.1) e_) (fun e_ => (hk_.2.2.2.2.2.1) e_))) (fun k_ hk_ => ⟨hk_.1.1, hk_.1.2.1, hk_.1.2.2.1, hk_.1.2.2.2.1, hk_.1.2.2.2.2.1, hk_.1.2.2.2.2.2.1, hk_.1.2.2.2.2.2.2.1, hk_.1.2.2.2.2.2.2.2.1, hk_.1.2.2.2.2.2.2.2.2.1, hk_.1.2.2.2.2.2.2.2.2.2.1, hk_.1.2.2.2.2.2.2.2.2.2.2⟩)); replace HO_402001 := Aside0.mk (Kd.R_mono (ok' := fun k_ => some k_ ≠ (.slice Ao43 t372.length co43 : Value).ownBlock ∧ some k_ ≠ (.slice Ao45 t375.length co45 : Value).ownBlock ∧ some k_ ≠ (.slice Ao51 t380.length co51 : Value).ownBlock ∧ some k_ ≠ (.slice Ao56 t383.length co56 : Value).ownBlock ∧ some k_ ≠ (.slice Ao61 t387.length co61 : Value).ownBlock ∧ some k_ ≠ (.slice Ao67 t390.length co67 : Value).ownBlock ∧ some k_ ≠ (.slice Ao71 t394.length co71 : Value).ownBlock ∧ some k_ ≠ (.slice Ao105 t403.length co105 : Value).ownBlock ∧ some k_ ≠ (.slice Ao106 t406.length co106 : Value).ownBlock ∧ some k_ ≠ (.slice Ao110 t410.length co110 : Value).ownBlock ∧ some k_ ≠ (.slice Ao111 t413.length co111 : Value).ownBlock) (Kd.R_keptB (HO_402001.out) hkp (fun k_ hk_ hs_ => Or.elim hs_ (fun e_ => (hk_.2.2.2.2.1) e_) (fun e_ => (hk_.2.2.2.2.2.1) e_))) (fun k_ hk_ => ⟨hk_.1.1, hk_.1.2.1, hk_.1.2.2.1, hk_.1.2.2.2.1, hk_.1.2.2.2.2.1, hk_.1.2.2.2.2.2.1, hk_.1.2.2.2.2.2.2.1, hk_.1.2.2.2.2.2.2.2.1, hk_.1.2.2.2.2.2.2.2.2.1, hk_.1.2.2.2.2.2.2.2.2.2.1, hk_.1.2.2.2.2.2.2.2.2.2.2⟩)); replace BK356 := Aside0.mk (blk_kept (kU BK356.out) hkp (fun hs_ => Or.elim hs_ (fun e_ => (fun e_ => (Kd.R_ne HO_394000.out BK356.out (by decide)) e_) e_) (fun e_ => (fun e_ => (Kd.R_ne HO_394001.out BK356.out (by decide)) e_) e_))); replace BK357 := Aside0.mk (blk_kept (kU BK357.out) hkp (fun hs_ => Or.elim hs_ (fun e_ => (fun e_ => (Kd.R_ne HO_394000.out BK357.out (by decide)) e_) e_) (fun e_ => (fun e_ => (Kd.R_ne HO_394001.out BK357.out (by decide)) e_) e_))); replace BK379 := Aside0.mk (blk_kept (kU BK379.out) hkp (fun hs_ => Or.elim hs_ (fun e_ => (fun e_ => (Kd.R_ne HO_394000.out BK379.out (by decide)) e_) e_) (fun e_ => (fun e_ => (Kd.R_ne HO_394001.out BK379.out (by decide)) e_) e_))); replace BK386 := Aside0.mk (blk_kept (kU BK386.out) hkp (fun hs_ => Or.elim hs_ (fun e_ => (fun e_ => (Kd.R_ne HO_394000.out BK386.out (by decide)) e_) e_) (fun e_ => (fun e_ => (Kd.R_ne HO_394001.out BK386.out (by decide)) e_) e_))); replace BK393 := Aside0.mk (blk_kept (kU BK393.out) hkp (fun hs_ => Or.elim hs_ (fun e_ => (fun e_ => (Kd.R_ne HO_394000.out BK393.out (by decide)) e_) e_) (fun e_ => (fun e_ => (Kd.R_ne HO_394001.out BK393.out (by decide)) e_) e_))); replace BK401 := Aside0.mk (blk_kept (kU BK401.out) hkp (fun hs_ => Or.elim hs_ (fun e_ => (fun e_ => (Kd.R_ne HO_394000.out BK401.out (by decide)) e_) e_) (fun e_ => (fun e_ => (Kd.R_ne HO_394001.out BK401.out (by decide)) e_) e_))); replace HO_394000 := Aside0.mk (Kd.R_reok rfl hy0 (fun k_ e_ => HO_394000.out.1 k_ e_)); replace HO_394001 := Aside0.mk (Kd.R_reok rfl hy1 (fun k_ e_ => HO_394001.out.1 k_ e_)); replace HO405 := Aside0.mk (Kd.R_mono (ok' := fun k_ => some k_ ≠ (.slice Ao43 t372.length co43 : Value).ownBlock ∧ some k_ ≠ (.slice Ao45 t375.length co45 : Value).ownBlock ∧ some k_ ≠ (.slice Ao51 t380.length co51 : Value).ownBlock ∧ some k_ ≠ (.slice Ao56 t383.length co56 : Value).ownBlock ∧ some k_ ≠ (.slice Ao61 t387.length co61 : Value).ownBlock ∧ some k_ ≠ (.slice Ao67 t390.length co67 : Value).ownBlock ∧ some k_ ≠ (.slice Ao71 t394.length co71 : Value).ownBlock ∧ some k_ ≠ (.slice Ao78 t397.length co78 : Value).ownBlock ∧ some k_ ≠ (.slice Ao106 t406.length co106 : Value).ownBlock ∧ some k_ ≠ (.slice Ao110 t410.length co110 : Value).ownBlock ∧ some k_ ≠ (.slice Ao111 t413.length co111 : Value).ownBlock) (Kd.R_keptB (HO405.out) hkp (fun k_ hk_ hs_ => Or.elim hs_ (fun e_ => (hk_.2.2.2.2.1) e_) (fun e_ => (hk_.2.2.2.2.2.1) e_))) (fun k_ hk_ => ⟨hk_.1.1, hk_.1.2.1, hk_.1.2.2.1, hk_.1.2.2.2.1, hk_.1.2.2.2.2.1, hk_.1.2.2.2.2.2.1, hk_.1.2.2.2.2.2.2.1, hk_.1.2.2.2.2.2.2.2.1, hk_.1.2.2.2.2.2.2.2.2.1, hk_.1.2.2.2.2.2.2.2.2.2.1, hk_.1.2.2.2.2.2.2.2.2.2.2⟩)); replace HO408 := Aside0.mk (Kd.R_mono (ok' := fun k_ => some k_ ≠ (.slice Ao43 t372.length co43 : Value).ownBlock ∧ some k_ ≠ (.slice Ao45 t375.length co45 : Value).ownBlock ∧ some k_ ≠ (.slice Ao51 t380.length co51 : Value).ownBlock ∧ some k_ ≠ (.slice Ao56 t383.length co56 : Value).ownBlock ∧ some k_ ≠ (.slice Ao61 t387.length co61 : Value).ownBlock ∧ some k_ ≠ (.slice Ao67 t390.length co67 : Value).ownBlock ∧ some k_ ≠ (.slice Ao71 t394.length co71 : Value).ownBlock ∧ some k_ ≠ (.slice Ao78 t397.length co78 : Value).ownBlock ∧ some k_ ≠ (.slice Ao105 t403.length co105 : Value).ownBlock ∧ some k_ ≠ (.slice Ao110 t410.length co110 : Value).ownBlock ∧ some k_ ≠ (.slice Ao111 t413.length co111 : Value).ownBlock) (Kd.R_keptB (HO408.out) hkp (fun k_ hk_ hs_ => Or.elim hs_ (fun e_ => (hk_.2.2.2.2.1) e_) (fun e_ => (hk_.2.2.2.2.2.1) e_))) (fun k_ hk_ => ⟨hk_.1.1, hk_.1.2.1, hk_.1.2.2.1, hk_.1.2.2.2.1, hk_.1.2.2.2.2.1, hk_.1.2.2.2.2.2.1, hk_.1.2.2.2.2.2.2.1, hk_.1.2.2.2.2.2.2.2.1, hk_.1.2.2.2.2.2.2.2.2.1, hk_.1.2.2.2.2.2.2.2.2.2.1, hk_.1.2.2.2.2.2.2.2.2.2.2⟩)); replace HO412 := Aside0.mk (Kd.R_mono (ok' := fun k_ => some k_ ≠ (.slice Ao43 t372.length co43 : Value).ownBlock ∧ some k_ ≠ (.slice Ao45 t375.length co45 : Value).ownBlock ∧ some k_ ≠ (.slice Ao51 t380.length co51 : Value).ownBlock ∧ some k_ ≠ (.slice Ao56 t383.length co56 : Value).ownBlock ∧ some k_ ≠ (.slice Ao61 t387.length co61 : Value).ownBlock ∧ some k_ ≠ (.slice Ao67 t390.length co67 : Value).ownBlock ∧ some k_ ≠ (.slice Ao71 t394.length co71 : Value).ownBlock ∧ some k_ ≠ (.slice Ao78 t397.length co78 : Value).ownBlock ∧ some k_ ≠ (.slice Ao105 t403.length co105 : Value).ownBlock ∧ some k_ ≠ (.slice Ao106 t406.length co106 : Value).ownBlock ∧ some k_ ≠ (.slice Ao111 t413.length co111 : Value).ownBlock) (Kd.R_keptB (HO412.out) hkp (fun k_ hk_ hs_ => Or.elim hs_ (fun e_ => (hk_.2.2.2.2.1) e_) (fun e_ => (hk_.2.2.2.2.2.1) e_))) (fun k_ hk_ => ⟨hk_.1.1, hk_.1.2.1, hk_.1.2.2.1, hk_.1.2.2.2.1, hk_.1.2.2.2.2.1, hk_.1.2.2.2.2.2.1, hk_.1.2.2.2.2.2.2.1, hk_.1.2.2.2.2.2.2.2.1, hk_.1.2.2.2.2.2.2.2.2.1, hk_.1.2.2.2.2.2.2.2.2.2.1, hk_.1.2.2.2.2.2.2.2.2.2.2⟩)); replace HO415 := Aside0.mk (Kd.R_mono (ok' := fun k_ => some k_ ≠ (.slice Ao43 t372.length co43 : Value).ownBlock ∧ some k_ ≠ (.slice Ao45 t375.length co45 : Value).ownBlock ∧ some k_ ≠ (.slice Ao51 t380.length co51 : Value).ownBlock ∧ some k_ ≠ (.slice Ao56 t383.length co56 : Value).ownBlock ∧ some k_ ≠ (.slice Ao61 t387.length co61 : Value).ownBlock ∧ some k_ ≠ (.slice Ao67 t390.length co67 : Value).ownBlock ∧ some k_ ≠ (.slice Ao71 t394.length co71 : Value).ownBlock ∧ some k_ ≠ (.slice Ao78 t397.length co78 : Value).ownBlock ∧ some k_ ≠ (.slice Ao105 t403.length co105 : Value).ownBlock ∧ some k_ ≠ (.slice Ao106 t406.length co106 : Value).ownBlock ∧ some k_ ≠ (.slice Ao110 t410.length co110 : Value).ownBlock) (Kd.R_keptB (HO415.out) hkp (fun k_ hk_ hs_ => Or.elim hs_ (fun e_ => (hk_.2.2.2.2.1) e_) (fun e_ => (hk_.2.2.2.2.2.1) e_))) (fun k_ hk_ => ⟨hk_.1.1, hk_.1.2.1, hk_.1.2.2.1, hk_.1.2.2.2.1, hk_.1.2.2.2.2.1, hk_.1.2.2.2.2.2.1, hk_.1.2.2.2.2.2.2.1, hk_.1.2.2.2.2.2.2.2.1, hk_.1.2.2.2.2.2.2.2.2.1, hk_.1.2.2.2.2.2.2.2.2.2.1, hk_.1.2.2.2.2.2.2.2.2.2.2⟩)); replace HB := Aside0.mk (hb); (try clear hb); (try clear hkp); (try clear hy0); (try clear hy1)))
        (try simp only [Act.put, List.setIfInBounds_toArray, List.set_cons_zero, List.set_cons_succ])
        go_cut [82] (fun v82 wc => ∃ (kq : Nat) (x82_101 : Bool), v82 = .bool x82_101 ∧ Aside0 (laws_FnExactDrop.j1 kq t378 x82_101 l0_0 l0_1 l1_0 l1_1 t372 t375 t394 t397 = some r) ∧ Aside0 (kq ≤ kj24) ∧ Aside0 (Kd.R (Kd.int .i64) 3 wc w.heap.size (fun k_ => some k_ ≠ ((.slice Ao45 t375.length co45) : Value).ownBlock ∧ some k_ ≠ ((.slice Ao51 t380.length co51) : Value).ownBlock ∧ some k_ ≠ ((.slice Ao56 t383.length co56) : Value).ownBlock ∧ some k_ ≠ ((.slice Ao61 t387.length co61) : Value).ownBlock ∧ some k_ ≠ ((.slice Ao67 t390.length co67) : Value).ownBlock ∧ some k_ ≠ ((.slice Ao71 t394.length co71) : Value).ownBlock ∧ some k_ ≠ ((.slice Ao78 t397.length co78) : Value).ownBlock) (.slice Ao43 t372.length co43) t372) ∧ Aside0 (Kd.R (Kd.int .i64) 3 wc w.heap.size (fun k_ => some k_ ≠ ((.slice Ao43 t372.length co43) : Value).ownBlock ∧ some k_ ≠ ((.slice Ao51 t380.length co51) : Value).ownBlock ∧ some k_ ≠ ((.slice Ao56 t383.length co56) : Value).ownBlock ∧ some k_ ≠ ((.slice Ao61 t387.length co61) : Value).ownBlock ∧ some k_ ≠ ((.slice Ao67 t390.length co67) : Value).ownBlock ∧ some k_ ≠ ((.slice Ao71 t394.length co71) : Value).ownBlock ∧ some k_ ≠ ((.slice Ao78 t397.length co78) : Value).ownBlock) (.slice Ao45 t375.length co45) t375) ∧ Aside0 (Kd.R (Kd.int .i64) 3 wc w.heap.size (fun k_ => some k_ ≠ ((.slice Ao43 t372.length co43) : Value).ownBlock ∧ some k_ ≠ ((.slice Ao45 t375.length co45) : Value).ownBlock ∧ some k_ ≠ ((.slice Ao56 t383.length co56) : Value).ownBlock ∧ some k_ ≠ ((.slice Ao61 t387.length co61) : Value).ownBlock ∧ some k_ ≠ ((.slice Ao67 t390.length co67) : Value).ownBlock ∧ some k_ ≠ ((.slice Ao71 t394.length co71) : Value).ownBlock ∧ some k_ ≠ ((.slice Ao78 t397.length co78) : Value).ownBlock) (.slice Ao51 t380.length co51) t418) ∧ Aside0 (Kd.R (Kd.int .i64) 3 wc w.heap.size (fun k_ => some k_ ≠ ((.slice Ao43 t372.length co43) : Value).ownBlock ∧ some k_ ≠ ((.slice Ao45 t375.length co45) : Value).ownBlock ∧ some k_ ≠ ((.slice Ao51 t380.length co51) : Value).ownBlock ∧ some k_ ≠ ((.slice Ao61 t387.length co61) : Value).ownBlock ∧ some k_ ≠ ((.slice Ao67 t390.length co67) : Value).ownBlock ∧ some k_ ≠ ((.slice Ao71 t394.length co71) : Value).ownBlock ∧ some k_ ≠ ((.slice Ao78 t397.length co78) : Value).ownBlock) (.slice Ao56 t383.length co56) t419) ∧ Aside0 (Kd.R (Kd.int .i64) 3 wc w.heap.size (fun k_ => some k_ ≠ ((.slice Ao43 t372.length co43) : Value).ownBlock ∧ some k_ ≠ ((.slice Ao45 t375.length co45) : Value).ownBlock ∧ some k_ ≠ ((.slice Ao51 t380.length co51) : Value).ownBlock ∧ some k_ ≠ ((.slice Ao56 t383.length co56) : Value).ownBlock ∧ some k_ ≠ ((.slice Ao67 t390.length co67) : Value).ownBlock ∧ some k_ ≠ ((.slice Ao71 t394.length co71) : Value).ownBlock ∧ some k_ ≠ ((.slice Ao78 t397.length co78) : Value).ownBlock) (.slice Ao61 t387.length co61) t421) ∧ Aside0 (Kd.R (Kd.int .i64) 3 wc w.heap.size (fun k_ => some k_ ≠ ((.slice Ao43 t372.length co43) : Value).ownBlock ∧ some k_ ≠ ((.slice Ao45 t375.length co45) : Value).ownBlock ∧ some k_ ≠ ((.slice Ao51 t380.length co51) : Value).ownBlock ∧ some k_ ≠ ((.slice Ao56 t383.length co56) : Value).ownBlock ∧ some k_ ≠ ((.slice Ao61 t387.length co61) : Value).ownBlock ∧ some k_ ≠ ((.slice Ao71 t394.length co71) : Value).ownBlock ∧ some k_ ≠ ((.slice Ao78 t397.length co78) : Value).ownBlock) (.slice Ao67 t390.length co67) t422) ∧ Aside0 (Kd.R (Kd.int .i64) 3 wc w.heap.size (fun k_ => some k_ ≠ ((.slice Ao43 t372.length co43) : Value).ownBlock ∧ some k_ ≠ ((.slice Ao45 t375.length co45) : Value).ownBlock ∧ some k_ ≠ ((.slice Ao51 t380.length co51) : Value).ownBlock ∧ some k_ ≠ ((.slice Ao56 t383.length co56) : Value).ownBlock ∧ some k_ ≠ ((.slice Ao61 t387.length co61) : Value).ownBlock ∧ some k_ ≠ ((.slice Ao67 t390.length co67) : Value).ownBlock ∧ some k_ ≠ ((.slice Ao78 t397.length co78) : Value).ownBlock) (.slice Ao71 t394.length co71) t394) ∧ Aside0 (Kd.R (Kd.int .i64) 3 wc w.heap.size (fun k_ => some k_ ≠ ((.slice Ao43 t372.length co43) : Value).ownBlock ∧ some k_ ≠ ((.slice Ao45 t375.length co45) : Value).ownBlock ∧ some k_ ≠ ((.slice Ao51 t380.length co51) : Value).ownBlock ∧ some k_ ≠ ((.slice Ao56 t383.length co56) : Value).ownBlock ∧ some k_ ≠ ((.slice Ao61 t387.length co61) : Value).ownBlock ∧ some k_ ≠ ((.slice Ao67 t390.length co67) : Value).ownBlock ∧ some k_ ≠ ((.slice Ao71 t394.length co71) : Value).ownBlock) (.slice Ao78 t397.length co78) t397) ∧ Aside0 (wc.heap[gb356]? = some (.cells #[(.slice A0_0 l0_0.length c0_0), (.slice A0_1 l0_1.length c0_1)] 24 (0, 0))) ∧ Aside0 (wc.heap[gb357]? = some (.cells #[(.slice A1_0 l1_0.length c1_0), (.slice A1_1 l1_1.length c1_1)] 24 (0, 0))) ∧ Aside0 (wc.heap[gb379]? = some (.cells #[(.slice Ao43 t372.length co43), (.slice Ao45 t375.length co45)] 26 (0, 0))) ∧ Aside0 (wc.heap[gb386]? = some (.cells #[(.slice Ao51 t380.length co51), (.slice Ao56 t383.length co56)] 26 (0, 0))) ∧ Aside0 (wc.heap[gb393]? = some (.cells #[(.slice Ao61 t387.length co61), (.slice Ao67 t390.length co67)] 26 (0, 0))) ∧ Aside0 (wc.heap[gb401]? = some (.cells #[(.slice Ao71 t394.length co71), (.slice Ao78 t397.length co78)] 26 (0, 0))) ∧ Aside0 (Below w.heap.size w wc))
        case first =>
         have H := HC102.out
         clear HC102
         by_cases c126 : t420 < 0
         ·
          rw [if_pos c126] at H
          have c126b0 : decide (t420 < 0) = true := decide_eq_true c126
          clear c126
          (first | rw [c126b0] | (simp only [i64_w, i32_w]; rw [c126b0]) | skip)
          have hz_ : ∀ kz, laws_FnExactDrop.j1 kz t378 true l0_0 l0_1 l1_0 l1_1 t372 t375 t394 t397 = some r → r = false := by intro kz hz; cases kz with | zero => exact absurd hz (by simp [laws_FnExactDrop.j1]) | succ kz => simp only [laws_FnExactDrop.j1] at hz; first | (rw [if_pos rfl] at hz; exact (Option.some.inj hz).symm) | (simp at hz; exact hz.symm) | (simp at hz; exact hz)
          exact absurd (HT.out.symm.trans (hz_ _ H)) (by decide)
         ·
          rw [if_neg c126] at H
          have c126b0 : decide (t420 < 0) = false := decide_eq_false c126
          clear c126
          (first | rw [c126b0] | (simp only [i64_w, i32_w]; rw [c126b0]) | skip)
          replace H := Option.bind_eq_some_iff.mp H
          obtain ⟨t423, A1270, H⟩ := H
          replace H : (if t423 = true then (laws_FnExactDrop.j1 kj24 t378 (t400 != t378) l0_0 l0_1 l1_0 l1_1 t372 t375 t394 t397) else (laws_FnExactDrop.j1 kj24 t378 true l0_0 l0_1 l1_0 l1_1 t372 t375 t394 t397)) = some r := H
          have A127 := Aside0.mk A1270
          clear A1270
          by_cases c128 : t423 = true
          ·
           subst c128
           have H1 : (laws_FnExactDrop.j1 kj24 t378 (t400 != t378) l0_0 l0_1 l1_0 l1_1 t372 t375 t394 t397) = some r := by rw [if_pos rfl] at H; exact H
           clear H
           have H := H1
           clear H1
           have H' := Aside0.mk H
           clear H
           have hnb129 := NB401_356.out
           have hnc129 := NB356_401.out
           have hnb130 := NB401_357.out
           have hnc130 := NB357_401.out
           have hnb131 := NB401_379.out
           have hnc131 := NB379_401.out
           have hnb132 := NB401_386.out
           have hnc132 := NB386_401.out
           have hnb133 := NB401_393.out
           have hnc133 := NB393_401.out
           have hcz134_0 : w125.cell? ⟨gb401, 0, none⟩ = some (.slice Ao71 t394.length co71) := (blk_cell BK401.out 0).trans rfl
           have hcz134_1 : w125.cell? ⟨gb401, 1, none⟩ = some (.slice Ao78 t397.length co78) := (blk_cell BK401.out 1).trans rfl
           have hfz134_0 := blk_frozen BK401.out 0
           have hfz134_1 := blk_frozen BK401.out 1
           have hnb135 := NB379_356.out
           have hnc135 := NB356_379.out
           have hnb136 := NB379_357.out
           have hnc136 := NB357_379.out
           have hnb137 := NB379_386.out
           have hnc137 := NB386_379.out
           have hnb138 := NB379_393.out
           have hnc138 := NB393_379.out
           have hcz139_0 : w125.cell? ⟨gb379, 0, none⟩ = some (.slice Ao43 t372.length co43) := (blk_cell BK379.out 0).trans rfl
           have hcz139_1 : w125.cell? ⟨gb379, 1, none⟩ = some (.slice Ao45 t375.length co45) := (blk_cell BK379.out 1).trans rfl
           have hfz139_0 := blk_frozen BK379.out 0
           have hfz139_1 := blk_frozen BK379.out 1
           go_wp2_with (first | (go_at_call 12; (repeat rw [i64_w]); (with_reducible refine (laws_eqArray.calls kj24 _ _ t394 _ _ t397 _ _ t372 _ _ t375 true _ ?side1 ?side2 ?side3 ?side4 ?side5 ?side6 ?side7 ?side8 A127.out).mono ?_); (case side1 => exact cU (Kd.R_reads' HO_402000.out).2.2); (case side2 => exact (Kd.R_reads' HO_402000.out).2.1); (case side3 => exact cU (Kd.R_reads' HO_402001.out).2.2); (case side4 => exact (Kd.R_reads' HO_402001.out).2.1); (case side5 => exact cU (Kd.R_reads' HO_380000.out).2.2); (case side6 => exact (Kd.R_reads' HO_380000.out).2.1); (case side7 => exact cU (Kd.R_reads' HO_380001.out).2.2); (case side8 => exact (Kd.R_reads' HO_380001.out).2.1); rintro e w140 ⟨rfl, hb⟩; replace HO_380000 := Aside0.mk (Kd.R_below (RU HO_380000.out) hb); replace HO_380001 := Aside0.mk (Kd.R_below (RU HO_380001.out) hb); replace HO_387000 := Aside0.mk (Kd.R_below (RU HO_387000.out) hb); replace HO_387001 := Aside0.mk (Kd.R_below (RU HO_387001.out) hb); replace HO_394000 := Aside0.mk (Kd.R_below (RU HO_394000.out) hb); replace HO_394001 := Aside0.mk (Kd.R_below (RU HO_394001.out) hb); replace HO_402000 := Aside0.mk (Kd.R_below (RU HO_402000.out) hb); replace HO_402001 := Aside0.mk (Kd.R_below (RU HO_402001.out) hb); replace HO405 := Aside0.mk (Kd.R_below (RU HO405.out) hb); replace HO408 := Aside0.mk (Kd.R_below (RU HO408.out) hb); replace HO412 := Aside0.mk (Kd.R_below (RU HO412.out) hb); replace HO415 := Aside0.mk (Kd.R_below (RU HO415.out) hb); replace BK356 := Aside0.mk (blk_below (g := gb356) (o := .cells #[.slice A0_0 l0_0.length c0_0, .slice A0_1 l0_1.length c0_1] 24 (0, 0)) (kU BK356.out) hb); replace BK357 := Aside0.mk (blk_below (g := gb357) (o := .cells #[.slice A1_0 l1_0.length c1_0, .slice A1_1 l1_1.length c1_1] 24 (0, 0)) (kU BK357.out) hb); replace BK379 := Aside0.mk (blk_below (g := gb379) (o := .cells #[.slice Ao43 t372.length co43, .slice Ao45 t375.length co45] 26 (0, 0)) (kU BK379.out) hb); replace BK386 := Aside0.mk (blk_below (g := gb386) (o := .cells #[.slice Ao51 t380.length co51, .slice Ao56 t383.length co56] 26 (0, 0)) (kU BK386.out) hb); replace BK393 := Aside0.mk (blk_below (g := gb393) (o := .cells #[.slice Ao61 t387.length co61, .slice Ao67 t390.length co67] 26 (0, 0)) (kU BK393.out) hb); replace BK401 := Aside0.mk (blk_below (g := gb401) (o := .cells #[.slice Ao71 t394.length co71, .slice Ao78 t397.length co78] 26 (0, 0)) (kU BK401.out) hb); replace HB := Aside0.mk (below_step (by repeat (first | (with_reducible first | exact HB.out | apply below_alloc | apply pw_below_drewN | apply below_drew1 | refine below_set ?_ GE356.out | refine below_set ?_ GE357.out | refine below_set ?_ GE379.out | refine below_set ?_ GE386.out | refine below_set ?_ GE393.out | refine below_set ?_ GE401.out) | exact HB.out)) hb); (try clear hb); (try clear hb2); (try clear hk); (try clear hi)))
           go_meet
           case rel => exact ⟨_, ((t400 != t378)), (by first | rfl | (simp; done) | (simp [*]; done)), H', ⟨by have := HJ24.out; first | omega | exact Nat.le_refl _⟩, ⟨by (with_reducible repeat (first | apply Kd.R_alloc | apply Kd.R_drewN | apply Kd.R_drew)); exact Kd.R_mono HO_380000.out (fun _ hk => ⟨hk.1, ⟨hk.2.1, ⟨hk.2.2.1, ⟨hk.2.2.2.1, ⟨hk.2.2.2.2.1, ⟨hk.2.2.2.2.2.1, hk.2.2.2.2.2.2.1⟩⟩⟩⟩⟩⟩)⟩, ⟨by (with_reducible repeat (first | apply Kd.R_alloc | apply Kd.R_drewN | apply Kd.R_drew)); exact Kd.R_mono HO_380001.out (fun _ hk => ⟨hk.1, ⟨hk.2.1, ⟨hk.2.2.1, ⟨hk.2.2.2.1, ⟨hk.2.2.2.2.1, ⟨hk.2.2.2.2.2.1, hk.2.2.2.2.2.2.1⟩⟩⟩⟩⟩⟩)⟩, ⟨by (with_reducible repeat (first | apply Kd.R_alloc | apply Kd.R_drewN | apply Kd.R_drew)); exact Kd.R_mono HO_387000.out (fun _ hk => ⟨hk.1, ⟨hk.2.1, ⟨hk.2.2.1, ⟨hk.2.2.2.1, ⟨hk.2.2.2.2.1, ⟨hk.2.2.2.2.2.1, hk.2.2.2.2.2.2.1⟩⟩⟩⟩⟩⟩)⟩, ⟨by (with_reducible repeat (first | apply Kd.R_alloc | apply Kd.R_drewN | apply Kd.R_drew)); exact Kd.R_mono HO_387001.out (fun _ hk => ⟨hk.1, ⟨hk.2.1, ⟨hk.2.2.1, ⟨hk.2.2.2.1, ⟨hk.2.2.2.2.1, ⟨hk.2.2.2.2.2.1, hk.2.2.2.2.2.2.1⟩⟩⟩⟩⟩⟩)⟩, ⟨by (with_reducible repeat (first | apply Kd.R_alloc | apply Kd.R_drewN | apply Kd.R_drew)); exact Kd.R_mono HO_394000.out (fun _ hk => ⟨hk.1, ⟨hk.2.1, ⟨hk.2.2.1, ⟨hk.2.2.2.1, ⟨hk.2.2.2.2.1, ⟨hk.2.2.2.2.2.1, hk.2.2.2.2.2.2.1⟩⟩⟩⟩⟩⟩)⟩, ⟨by (with_reducible repeat (first | apply Kd.R_alloc | apply Kd.R_drewN | apply Kd.R_drew)); exact Kd.R_mono HO_394001.out (fun _ hk => ⟨hk.1, ⟨hk.2.1, ⟨hk.2.2.1, ⟨hk.2.2.2.1, ⟨hk.2.2.2.2.1, ⟨hk.2.2.2.2.2.1, hk.2.2.2.2.2.2.1⟩⟩⟩⟩⟩⟩)⟩, ⟨by (with_reducible repeat (first | apply Kd.R_alloc | apply Kd.R_drewN | apply Kd.R_drew)); exact Kd.R_mono HO_402000.out (fun _ hk => ⟨hk.1, ⟨hk.2.1, ⟨hk.2.2.1, ⟨hk.2.2.2.1, ⟨hk.2.2.2.2.1, ⟨hk.2.2.2.2.2.1, hk.2.2.2.2.2.2.1⟩⟩⟩⟩⟩⟩)⟩, ⟨by (with_reducible repeat (first | apply Kd.R_alloc | apply Kd.R_drewN | apply Kd.R_drew)); exact Kd.R_mono HO_402001.out (fun _ hk => ⟨hk.1, ⟨hk.2.1, ⟨hk.2.2.1, ⟨hk.2.2.2.1, ⟨hk.2.2.2.2.1, ⟨hk.2.2.2.2.2.1, hk.2.2.2.2.2.2.1⟩⟩⟩⟩⟩⟩)⟩, ⟨by (with_reducible repeat (first | refine blk_drewN ?_ _ | refine blk_drew ?_ | refine blk_alloc ?_ _)); exact BK356.out⟩, ⟨by (with_reducible repeat (first | refine blk_drewN ?_ _ | refine blk_drew ?_ | refine blk_alloc ?_ _)); exact BK357.out⟩, ⟨by (with_reducible repeat (first | refine blk_drewN ?_ _ | refine blk_drew ?_ | refine blk_alloc ?_ _)); exact BK379.out⟩, ⟨by (with_reducible repeat (first | refine blk_drewN ?_ _ | refine blk_drew ?_ | refine blk_alloc ?_ _)); exact BK386.out⟩, ⟨by (with_reducible repeat (first | refine blk_drewN ?_ _ | refine blk_drew ?_ | refine blk_alloc ?_ _)); exact BK393.out⟩, ⟨by (with_reducible repeat (first | refine blk_drewN ?_ _ | refine blk_drew ?_ | refine blk_alloc ?_ _)); exact BK401.out⟩, ⟨by repeat (first | (with_reducible first | exact HB.out | apply below_alloc | apply pw_below_drewN | apply below_drew1 | refine below_set ?_ GE356.out | refine below_set ?_ GE357.out | refine below_set ?_ GE379.out | refine below_set ?_ GE386.out | refine below_set ?_ GE393.out | refine below_set ?_ GE401.out) | exact HB.out)⟩⟩
          ·
           replace c128 := Bool.eq_false_iff.mpr c128
           subst c128
           have H1 : (laws_FnExactDrop.j1 kj24 t378 true l0_0 l0_1 l1_0 l1_1 t372 t375 t394 t397) = some r := by rw [if_neg (show ¬ (false = true) by decide)] at H; exact H
           clear H
           have H := H1
           clear H1
           have hz_ : ∀ kz, laws_FnExactDrop.j1 kz t378 true l0_0 l0_1 l1_0 l1_1 t372 t375 t394 t397 = some r → r = false := by intro kz hz; cases kz with | zero => exact absurd hz (by simp [laws_FnExactDrop.j1]) | succ kz => simp only [laws_FnExactDrop.j1] at hz; first | (rw [if_pos rfl] at hz; exact (Option.some.inj hz).symm) | (simp at hz; exact hz.symm) | (simp at hz; exact hz)
           exact absurd (HT.out.symm.trans (hz_ _ H)) (by decide)
        case rest =>
         clear HC102
         try clear c1
         try clear p2
         try clear c9
         try clear c10
         try clear c11
         try clear c12
         try clear c13
         try clear c96
         try clear c99
         try clear c113
         try clear c114
         try clear c115
         try clear c116
         try clear c117
         try clear c120
         try clear c121
         try clear c122
         try clear c123
         try clear c126
         try clear c126b0
         try clear c128
         try clear c129
         try clear c130
         try clear c131
         try clear c132
         try clear c133
         try clear c135
         try clear c136
         try clear c137
         try clear c138
         try clear hcz118_0
         try clear hcz118_1
         try clear hcz124_0
         try clear hcz124_1
         try clear hcz134_0
         try clear hcz134_1
         try clear hcz139_0
         try clear hcz139_1
         try clear hfz118_0
         try clear hfz118_1
         try clear hfz124_0
         try clear hfz124_1
         try clear hfz134_0
         try clear hfz134_1
         try clear hfz139_0
         try clear hfz139_1
         obtain ⟨kq, x82_101, rfl, HA, HJ101, HO_380000, HO_380001, HO_387000, HO_387001, HO_394000, HO_394001, HO_402000, HO_402001, BK356, BK357, BK379, BK386, BK393, BK401, HB⟩ := hcut
         have hl387000_101 := (Kd.R_reads' HO_387000.out).1
         rw [hl387000_101] at HO_387000
         (try simp only [hl387000_101])
         (try simp only [hl387000_101] at BK356)
         (try simp only [hl387000_101] at BK357)
         (try simp only [hl387000_101] at BK379)
         (try simp only [hl387000_101] at BK386)
         (try simp only [hl387000_101] at BK393)
         (try simp only [hl387000_101] at BK401)
         (try simp only [hl387000_101] at HO_380000)
         (try simp only [hl387000_101] at HO_380001)
         (try simp only [hl387000_101] at HO_387001)
         (try simp only [hl387000_101] at HO_394000)
         (try simp only [hl387000_101] at HO_394001)
         (try simp only [hl387000_101] at HO_402000)
         (try simp only [hl387000_101] at HO_402001)
         have hl387001_101 := (Kd.R_reads' HO_387001.out).1
         rw [hl387001_101] at HO_387001
         (try simp only [hl387001_101])
         (try simp only [hl387001_101] at BK356)
         (try simp only [hl387001_101] at BK357)
         (try simp only [hl387001_101] at BK379)
         (try simp only [hl387001_101] at BK386)
         (try simp only [hl387001_101] at BK393)
         (try simp only [hl387001_101] at BK401)
         (try simp only [hl387001_101] at HO_380000)
         (try simp only [hl387001_101] at HO_380001)
         (try simp only [hl387001_101] at HO_387000)
         (try simp only [hl387001_101] at HO_394000)
         (try simp only [hl387001_101] at HO_394001)
         (try simp only [hl387001_101] at HO_402000)
         (try simp only [hl387001_101] at HO_402001)
         have hl394000_101 := (Kd.R_reads' HO_394000.out).1
         rw [hl394000_101] at HO_394000
         (try simp only [hl394000_101])
         (try simp only [hl394000_101] at BK356)
         (try simp only [hl394000_101] at BK357)
         (try simp only [hl394000_101] at BK379)
         (try simp only [hl394000_101] at BK386)
         (try simp only [hl394000_101] at BK393)
         (try simp only [hl394000_101] at BK401)
         (try simp only [hl394000_101] at HO_380000)
         (try simp only [hl394000_101] at HO_380001)
         (try simp only [hl394000_101] at HO_387000)
         (try simp only [hl394000_101] at HO_387001)
         (try simp only [hl394000_101] at HO_394001)
         (try simp only [hl394000_101] at HO_402000)
         (try simp only [hl394000_101] at HO_402001)
         have hl394001_101 := (Kd.R_reads' HO_394001.out).1
         rw [hl394001_101] at HO_394001
         (try simp only [hl394001_101])
         (try simp only [hl394001_101] at BK356)
         (try simp only [hl394001_101] at BK357)
         (try simp only [hl394001_101] at BK379)
         (try simp only [hl394001_101] at BK386)
         (try simp only [hl394001_101] at BK393)
         (try simp only [hl394001_101] at BK401)
         (try simp only [hl394001_101] at HO_380000)
         (try simp only [hl394001_101] at HO_380001)
         (try simp only [hl394001_101] at HO_387000)
         (try simp only [hl394001_101] at HO_387001)
         (try simp only [hl394001_101] at HO_394000)
         (try simp only [hl394001_101] at HO_402000)
         (try simp only [hl394001_101] at HO_402001)
         cases kq with
         | zero => exact absurd HA.out (by simp [laws_FnExactDrop.j1])
         | succ kj101 =>
          have H := HA.out
          clear HA
          simp only [laws_FnExactDrop.j1] at H
          by_cases c141 : x82_101 = true
          ·
           subst c141
           have H1 : (some false) = some r := by rw [if_pos rfl] at H; exact H
           clear H
           have H := H1
           clear H1
           obtain rfl := Option.some.inj H
           exact absurd HT.out (by decide)
          ·
           replace c141 := Bool.eq_false_iff.mpr c141
           subst c141
           have H1 : ((laws_markArray.f kj101 t394 t397 1).bind fun bt424 => ((laws_heldArray.f kj101 bt424.2.1 bt424.2.2 1).bind fun t427 => (if t427 < 0 then (some false) else (if t427 = bt424.1 then ((laws_toArray.f kj101 l0_0 l0_1).bind fun bt428 => ((laws_toArray.f kj101 l1_0 l1_1).bind fun bt434 => ((impl_Drop.f kj101 bt428.1 bt428.2 bt434.1 bt434.2).bind fun bt440 => ((laws_eqArray.f kj101 bt440.1 bt440.2.1 t372 t375).bind fun t448 => (if t448 = true then (laws_FnExactDrop.j2 kj101 bt424.1 (bt440.2.2 != t378) bt424.2.1 bt424.2.2) else (laws_FnExactDrop.j2 kj101 bt424.1 true bt424.2.1 bt424.2.2)))))) else (some false))))) = some r := by rw [if_neg (show ¬ (false = true) by decide)] at H; exact H
           clear H
           have H := H1
           clear H1
           replace H := Option.bind_eq_some_iff.mp H
           obtain ⟨⟨t424, t425, t426⟩, A1420, H⟩ := H
           replace H : ((laws_heldArray.f kj101 t425 t426 1).bind fun t427 => (if t427 < 0 then (some false) else (if t427 = t424 then ((laws_toArray.f kj101 l0_0 l0_1).bind fun bt428 => ((laws_toArray.f kj101 l1_0 l1_1).bind fun bt434 => ((impl_Drop.f kj101 bt428.1 bt428.2 bt434.1 bt434.2).bind fun bt440 => ((laws_eqArray.f kj101 bt440.1 bt440.2.1 t372 t375).bind fun t448 => (if t448 = true then (laws_FnExactDrop.j2 kj101 t424 (bt440.2.2 != t378) t425 t426) else (laws_FnExactDrop.j2 kj101 t424 true t425 t426)))))) else (some false)))) = some r := H
           have A142 := Aside0.mk A1420
           clear A1420
           replace H := Option.bind_eq_some_iff.mp H
           obtain ⟨t427, A1430, H⟩ := H
           replace H : (if t427 < 0 then (some false) else (if t427 = t424 then ((laws_toArray.f kj101 l0_0 l0_1).bind fun bt428 => ((laws_toArray.f kj101 l1_0 l1_1).bind fun bt434 => ((impl_Drop.f kj101 bt428.1 bt428.2 bt434.1 bt434.2).bind fun bt440 => ((laws_eqArray.f kj101 bt440.1 bt440.2.1 t372 t375).bind fun t448 => (if t448 = true then (laws_FnExactDrop.j2 kj101 t424 (bt440.2.2 != t378) t425 t426) else (laws_FnExactDrop.j2 kj101 t424 true t425 t426)))))) else (some false))) = some r := H
           have A143 := Aside0.mk A1430
           clear A1430
           by_cases c144 : t427 < 0
           ·
            rw [if_pos c144] at H
            have c144b0 : decide (t427 < 0) = true := decide_eq_true c144
            clear c144
            obtain rfl := Option.some.inj H
            exact absurd HT.out (by decide)
           ·
            rw [if_neg c144] at H
            have c144b0 : decide (t427 < 0) = false := decide_eq_false c144
            clear c144
            by_cases c145 : t427 = t424
            ·
             rw [if_pos c145] at H
             have c145b0 : (t427 == t424) = true := beq_iff_eq.mpr c145
             have c145b1 : (t427 != t424) = false := bne_eq_false_iff_eq.mpr c145
             clear c145
             replace H := Option.bind_eq_some_iff.mp H
             obtain ⟨⟨t428, t431⟩, A1460, H⟩ := H
             replace H : ((laws_toArray.f kj101 l1_0 l1_1).bind fun bt434 => ((impl_Drop.f kj101 t428 t431 bt434.1 bt434.2).bind fun bt440 => ((laws_eqArray.f kj101 bt440.1 bt440.2.1 t372 t375).bind fun t448 => (if t448 = true then (laws_FnExactDrop.j2 kj101 t424 (bt440.2.2 != t378) t425 t426) else (laws_FnExactDrop.j2 kj101 t424 true t425 t426))))) = some r := H
             have A146 := Aside0.mk A1460
             clear A1460
             replace H := Option.bind_eq_some_iff.mp H
             obtain ⟨⟨t434, t437⟩, A1470, H⟩ := H
             replace H : ((impl_Drop.f kj101 t428 t431 t434 t437).bind fun bt440 => ((laws_eqArray.f kj101 bt440.1 bt440.2.1 t372 t375).bind fun t448 => (if t448 = true then (laws_FnExactDrop.j2 kj101 t424 (bt440.2.2 != t378) t425 t426) else (laws_FnExactDrop.j2 kj101 t424 true t425 t426)))) = some r := H
             have A147 := Aside0.mk A1470
             clear A1470
             replace H := Option.bind_eq_some_iff.mp H
             obtain ⟨⟨t440, t443, t446⟩, A1480, H⟩ := H
             replace H : ((laws_eqArray.f kj101 t440 t443 t372 t375).bind fun t448 => (if t448 = true then (laws_FnExactDrop.j2 kj101 t424 (t446 != t378) t425 t426) else (laws_FnExactDrop.j2 kj101 t424 true t425 t426))) = some r := H
             have A148 := Aside0.mk A1480
             clear A1480
             have HC149 := Aside0.mk H
             clear H
             have hnb150 := NB401_356.out
             have hnc150 := NB356_401.out
             have hnb151 := NB401_357.out
             have hnc151 := NB357_401.out
             have hnb152 := NB401_379.out
             have hnc152 := NB379_401.out
             have hnb153 := NB401_386.out
             have hnc153 := NB386_401.out
             have hnb154 := NB401_393.out
             have hnc154 := NB393_401.out
             have hcz155_0 : wc.cell? ⟨gb401, 0, none⟩ = some (.slice Ao71 t394.length co71) := (blk_cell BK401.out 0).trans rfl
             have hcz155_1 : wc.cell? ⟨gb401, 1, none⟩ = some (.slice Ao78 t397.length co78) := (blk_cell BK401.out 1).trans rfl
             have hfz155_0 := blk_frozen BK401.out 0
             have hfz155_1 := blk_frozen BK401.out 1
             try go_wp2_with (first | ((with_reducible refine gate_callee (f := 13) rfl ?_); refine goesL_ (some 85) rfl rfl Try.func13 (by kernel_rfl) rfl #[.agg #[.slice Ao71 t394.length co71, .slice Ao78 t397.length co78], .int .i64 1] rfl (by (try simp only [List.map_toArray, List.map_cons, List.map_nil]); first | done | rfl | (simp only [List.length_drop, List.length_take]; rfl)) ?_; (with_reducible refine (laws_markArray.calls kj101 (fun k_ => some k_ = (.slice Ao71 t394.length co71 : Value).ownBlock) (.slice Ao71 t394.length co71) t394 (fun k_ => some k_ = (.slice Ao78 t397.length co78 : Value).ownBlock) (.slice Ao78 t397.length co78) t397 1 t424 t425 t426 w _ ?side1 ?side2 ?side3 ?side4 ?side5 A142.out).mono ?_); (case side1 => repeat (first | (with_reducible first | exact HB.out | apply below_alloc | apply pw_below_drewN | apply below_drew1 | refine below_set ?_ GE356.out | refine below_set ?_ GE357.out | refine below_set ?_ GE379.out | refine below_set ?_ GE386.out | refine below_set ?_ GE393.out | refine below_set ?_ GE401.out) | exact HB.out)); (case side2 => exact Kd.R_tight rfl HO_402000.out); (case side3 => exact fun k_ e_ => (HO_402000.out.1 k_ e_.symm).2.2.2.2.2.2); (case side4 => exact Kd.R_tight rfl HO_402001.out); (case side5 => exact fun k_ e_ => (HO_402001.out.1 k_ e_.symm).2.2.2.2.2.2); rintro e w156 ⟨rfl, hy0, hy1, hb, hkp⟩; refine ⟨_, rfl, ?_⟩; replace HO_380000 := Aside0.mk (Kd.R_mono (ok' := fun k_ => some k_ ≠ (.slice Ao45 t375.length co45 : Value).ownBlock ∧ some k_ ≠ (.slice Ao51 t418.length co51 : Value).ownBlock ∧ some k_ ≠ (.slice Ao56 t419.length co56 : Value).ownBlock ∧ some k_ ≠ (.slice Ao61 t421.length co61 : Value).ownBlock ∧ some k_ ≠ (.slice Ao67 t422.length co67 : Value).ownBlock ∧ some k_ ≠ (.slice Ao71 t394.length co71 : Value).ownBlock ∧ some k_ ≠ (.slice Ao78 t397.length co78 : Value).ownBlock) (Kd.R_keptB (HO_380000.out) hkp (fun k_ hk_ hs_ => Or.elim hs_ (fun e_ => (hk_.2.2.2.2.2.1) e_) (fun e_ => (hk_.2.2.2.2.2.2) e_))) (fun k_ hk_ => ⟨hk_.1.1, hk_.1.2.1, hk_.1.2.2.1, hk_.1.2.2.2.1, hk_.1.2.2.2.2.1, hk_.1.2.2.2.2.2.1, hk_.1.2.2.2.2.2.2⟩)); replace HO_380001 := Aside0.mk (Kd.R_mono (ok' := fun k_ => some k_ ≠ (.slice Ao43 t372.length co43 : Value).ownBlock ∧ some k_ ≠ (.slice Ao51 t418.length co51 : Value).ownBlock ∧ some k_ ≠ (.slice Ao56 t419.length co56 : Value).ownBlock ∧ some k_ ≠ (.slice Ao61 t421.length co61 : Value).ownBlock ∧ some k_ ≠ (.slice Ao67 t422.length co67 : Value).ownBlock ∧ some k_ ≠ (.slice Ao71 t394.length co71 : Value).ownBlock ∧ some k_ ≠ (.slice Ao78 t397.length co78 : Value).ownBlock) (Kd.R_keptB (HO_380001.out) hkp (fun k_ hk_ hs_ => Or.elim hs_ (fun e_ => (hk_.2.2.2.2.2.1) e_) (fun e_ => (hk_.2.2.2.2.2.2) e_))) (fun k_ hk_ => ⟨hk_.1.1, hk_.1.2.1, hk_.1.2.2.1, hk_.1.2.2.2.1, hk_.1.2.2.2.2.1, hk_.1.2.2.2.2.2.1, hk_.1.2.2.2.2.2.2⟩)); replace HO_387000 := Aside0.mk (Kd.R_mono (ok' := fun k_ => some k_ ≠ (.slice Ao43 t372.length co43 : Value).ownBlock ∧ some k_ ≠ (.slice Ao45 t375.length co45 : Value).ownBlock ∧ some k_ ≠ (.slice Ao56 t419.length co56 : Value).ownBlock ∧ some k_ ≠ (.slice Ao61 t421.length co61 : Value).ownBlock ∧ some k_ ≠ (.slice Ao67 t422.length co67 : Value).ownBlock ∧ some k_ ≠ (.slice Ao71 t394.length co71 : Value).ownBlock ∧ some k_ ≠ (.slice Ao78 t397.length co78 : Value).ownBlock) (Kd.R_keptB (HO_387000.out) hkp (fun k_ hk_ hs_ => Or.elim hs_ (fun e_ => (hk_.2.2.2.2.2.1) e_) (fun e_ => (hk_.2.2.2.2.2.2) e_))) (fun k_ hk_ => ⟨hk_.1.1, hk_.1.2.1, hk_.1.2.2.1, hk_.1.2.2.2.1, hk_.1.2.2.2.2.1, hk_.1.2.2.2.2.2.1, hk_.1.2.2.2.2.2.2⟩)); replace HO_387001 := Aside0.mk (Kd.R_mono (ok' := fun k_ => some k_ ≠ (.slice Ao43 t372.length co43 : Value).ownBlock ∧ some k_ ≠ (.slice Ao45 t375.length co45 : Value).ownBlock ∧ some k_ ≠ (.slice Ao51 t418.length co51 : Value).ownBlock ∧ some k_ ≠ (.slice Ao61 t421.length co61 : Value).ownBlock ∧ some k_ ≠ (.slice Ao67 t422.length co67 : Value).ownBlock ∧ some k_ ≠ (.slice Ao71 t394.length co71 : Value).ownBlock ∧ some k_ ≠ (.slice Ao78 t397.length co78 : Value).ownBlock) (Kd.R_keptB (HO_387001.out) hkp (fun k_ hk_ hs_ => Or.elim hs_ (fun e_ => (hk_.2.2.2.2.2.1) e_) (fun e_ => (hk_.2.2.2.2.2.2) e_))) (fun k_ hk_ => ⟨hk_.1.1, hk_.1.2.1, hk_.1.2.2.1, hk_.1.2.2.2.1, hk_.1.2.2.2.2.1, hk_.1.2.2.2.2.2.1, hk_.1.2.2.2.2.2.2⟩)); replace HO_394000 := Aside0.mk (Kd.R_mono (ok' := fun k_ => some k_ ≠ (.slice Ao43 t372.length co43 : Value).ownBlock ∧ some k_ ≠ (.slice Ao45 t375.length co45 : Value).ownBlock ∧ some k_ ≠ (.slice Ao51 t418.length co51 : Value).ownBlock ∧ some k_ ≠ (.slice Ao56 t419.length co56 : Value).ownBlock ∧ some k_ ≠ (.slice Ao67 t422.length co67 : Value).ownBlock ∧ some k_ ≠ (.slice Ao71 t394.length co71 : Value).ownBlock ∧ some k_ ≠ (.slice Ao78 t397.length co78 : Value).ownBlock) (Kd.R_keptB (HO_394000.out) hkp (fun k_ hk_ hs_ => Or.elim hs_ (fun e_ => (hk_.2.2.2.2.2.1) e_) (fun e_ => (hk_.2.2.2.2.2.2) e_))) (fun k_ hk_ => ⟨hk_.1.1, hk_.1.2.1, hk_.1.2.2.1, hk_.1.2.2.2.1, hk_.1.2.2.2.2.1, hk_.1.2.2.2.2.2.1, hk_.1.2.2.2.2.2.2⟩)); replace HO_394001 := Aside0.mk (Kd.R_mono (ok' := fun k_ => some k_ ≠ (.slice Ao43 t372.length co43 : Value).ownBlock ∧ some k_ ≠ (.slice Ao45 t375.length co45 : Value).ownBlock ∧ some k_ ≠ (.slice Ao51 t418.length co51 : Value).ownBlock ∧ some k_ ≠ (.slice Ao56 t419.length co56 : Value).ownBlock ∧ some k_ ≠ (.slice Ao61 t421.length co61 : Value).ownBlock ∧ some k_ ≠ (.slice Ao71 t394.length co71 : Value).ownBlock ∧ some k_ ≠ (.slice Ao78 t397.length co78 : Value).ownBlock) (Kd.R_keptB (HO_394001.out) hkp (fun k_ hk_ hs_ => Or.elim hs_ (fun e_ => (hk_.2.2.2.2.2.1) e_) (fun e_ => (hk_.2.2.2.2.2.2) e_))) (fun k_ hk_ => ⟨hk_.1.1, hk_.1.2.1, hk_.1.2.2.1, hk_.1.2.2.2.1, hk_.1.2.2.2.2.1, hk_.1.2.2.2.2.2.1, hk_.1.2.2.2.2.2.2⟩)); replace BK356 := Aside0.mk (blk_kept (kU BK356.out) hkp (fun hs_ => Or.elim hs_ (fun e_ => (fun e_ => (Kd.R_ne HO_402000.out BK356.out (by decide)) e_) e_) (fun e_ => (fun e_ => (Kd.R_ne HO_402001.out BK356.out (by decide)) e_) e_))); replace BK357 := Aside0.mk (blk_kept (kU BK357.out) hkp (fun hs_ => Or.elim hs_ (fun e_ => (fun e_ => (Kd.R_ne HO_402000.out BK357.out (by decide)) e_) e_) (fun e_ => (fun e_ => (Kd.R_ne HO_402001.out BK357.out (by decide)) e_) e_))); replace BK379 := Aside0.mk (blk_kept (kU BK379.out) hkp (fun hs_ => Or.elim hs_ (fun e_ => (fun e_ => (Kd.R_ne HO_402000.out BK379.out (by decide)) e_) e_) (fun e_ => (fun e_ => (Kd.R_ne HO_402001.out BK379.out (by decide)) e_) e_))); replace BK386 := Aside0.mk (blk_kept (kU BK386.out) hkp (fun hs_ => Or.elim hs_ (fun e_ => (fun e_ => (Kd.R_ne HO_402000.out BK386.out (by decide)) e_) e_) (fun e_ => (fun e_ => (Kd.R_ne HO_402001.out BK386.out (by decide)) e_) e_))); replace BK393 := Aside0.mk (blk_kept (kU BK393.out) hkp (fun hs_ => Or.elim hs_ (fun e_ => (fun e_ => (Kd.R_ne HO_402000.out BK393.out (by decide)) e_) e_) (fun e_ => (fun e_ => (Kd.R_ne HO_402001.out BK393.out (by decide)) e_) e_))); replace BK401 := Aside0.mk (blk_kept (kU BK401.out) hkp (fun hs_ => Or.elim hs_ (fun e_ => (fun e_ => (Kd.R_ne HO_402000.out BK401.out (by decide)) e_) e_) (fun e_ => (fun e_ => (Kd.R_ne HO_402001.out BK401.out (by decide)) e_) e_))); replace HO_402000 := Aside0.mk (Kd.R_reok rfl hy0 (fun k_ e_ => HO_402000.out.1 k_ e_)); replace HO_402001 := Aside0.mk (Kd.R_reok rfl hy1 (fun k_ e_ => HO_402001.out.1 k_ e_)); replace HB := Aside0.mk (hb); (try clear hb); (try clear hkp); (try clear hy0); (try clear hy1); have hcz157_0 : w156.cell? ⟨gb401, 0, none⟩ = some (.slice Ao71 t394.length co71) := (blk_cell BK401.out 0).trans rfl; have hcz157_1 : w156.cell? ⟨gb401, 1, none⟩ = some (.slice Ao78 t397.length co78) := (blk_cell BK401.out 1).trans rfl; have hfz157_0 := blk_frozen BK401.out 0; have hfz157_1 := blk_frozen BK401.out 1) | ((with_reducible refine gate_callee (f := 14) rfl ?_); refine goesL_ (some 88) rfl rfl Try.func14 (by kernel_rfl) rfl #[.agg #[.slice Ao71 t425.length co71, .slice Ao78 t426.length co78], .int .i64 1] rfl (by (try simp only [List.map_toArray, List.map_cons, List.map_nil]); first | done | (rw [show t425.length = t394.length from (Kd.R_reads' HO_402000.out).1.symm, show t426.length = t397.length from (Kd.R_reads' HO_402001.out).1.symm] <;> rfl) | rfl | (simp only [List.length_drop, List.length_take]; rfl)) ?_; (with_reducible refine (laws_heldArray.calls kj101 _ _ t425 _ _ t426 1 t427 _ ?side1 ?side2 ?side3 ?side4 A143.out).mono ?_); (case side1 => exact cU (Kd.R_reads' HO_402000.out).2.2); (case side2 => rw [show t425.length = t394.length from (Kd.R_reads' HO_402000.out).1.symm]; exact (Kd.R_reads' HO_402000.out).2.1); (case side3 => exact cU (Kd.R_reads' HO_402001.out).2.2); (case side4 => rw [show t426.length = t397.length from (Kd.R_reads' HO_402001.out).1.symm]; exact (Kd.R_reads' HO_402001.out).2.1); rintro e w158 ⟨rfl, hb⟩; refine ⟨_, rfl, ?_⟩; replace HO_380000 := Aside0.mk (Kd.R_below (RU HO_380000.out) hb); replace HO_380001 := Aside0.mk (Kd.R_below (RU HO_380001.out) hb); replace HO_387000 := Aside0.mk (Kd.R_below (RU HO_387000.out) hb); replace HO_387001 := Aside0.mk (Kd.R_below (RU HO_387001.out) hb); replace HO_394000 := Aside0.mk (Kd.R_below (RU HO_394000.out) hb); replace HO_394001 := Aside0.mk (Kd.R_below (RU HO_394001.out) hb); replace HO_402000 := Aside0.mk (Kd.R_below (RU HO_402000.out) hb); replace HO_402001 := Aside0.mk (Kd.R_below (RU HO_402001.out) hb); replace BK356 := Aside0.mk (blk_below (g := gb356) (o := .cells #[.slice A0_0 l0_0.length c0_0, .slice A0_1 l0_1.length c0_1] 24 (0, 0)) (kU BK356.out) hb); replace BK357 := Aside0.mk (blk_below (g := gb357) (o := .cells #[.slice A1_0 l1_0.length c1_0, .slice A1_1 l1_1.length c1_1] 24 (0, 0)) (kU BK357.out) hb); replace BK379 := Aside0.mk (blk_below (g := gb379) (o := .cells #[.slice Ao43 t372.length co43, .slice Ao45 t375.length co45] 26 (0, 0)) (kU BK379.out) hb); replace BK386 := Aside0.mk (blk_below (g := gb386) (o := .cells #[.slice Ao51 t418.length co51, .slice Ao56 t419.length co56] 26 (0, 0)) (kU BK386.out) hb); replace BK393 := Aside0.mk (blk_below (g := gb393) (o := .cells #[.slice Ao61 t421.length co61, .slice Ao67 t422.length co67] 26 (0, 0)) (kU BK393.out) hb); replace BK401 := Aside0.mk (blk_below (g := gb401) (o := .cells #[.slice Ao71 t394.length co71, .slice Ao78 t397.length co78] 26 (0, 0)) (kU BK401.out) hb); replace HB := Aside0.mk (below_step (by repeat (first | (with_reducible first | exact HB.out | apply below_alloc | apply pw_below_drewN | apply below_drew1 | refine below_set ?_ GE356.out | refine below_set ?_ GE357.out | refine below_set ?_ GE379.out | refine below_set ?_ GE386.out | refine below_set ?_ GE393.out | refine below_set ?_ GE401.out) | exact HB.out)) hb); (try clear hb); (try clear hb2); (try clear hk); (try clear hi)))
             replace HO_380000 := Aside0.mk (Kd.R_drew HO_380000.out)
             replace HO_380001 := Aside0.mk (Kd.R_drew HO_380001.out)
             replace HO_387000 := Aside0.mk (Kd.R_drew HO_387000.out)
             replace HO_387001 := Aside0.mk (Kd.R_drew HO_387001.out)
             replace HO_394000 := Aside0.mk (Kd.R_drew HO_394000.out)
             replace HO_394001 := Aside0.mk (Kd.R_drew HO_394001.out)
             replace HO_402000 := Aside0.mk (Kd.R_drew HO_402000.out)
             replace HO_402001 := Aside0.mk (Kd.R_drew HO_402001.out)
             replace BK356 := Aside0.mk (blk_drew BK356.out)
             replace BK357 := Aside0.mk (blk_drew BK357.out)
             replace BK379 := Aside0.mk (blk_drew BK379.out)
             replace BK386 := Aside0.mk (blk_drew BK386.out)
             replace BK393 := Aside0.mk (blk_drew BK393.out)
             replace BK401 := Aside0.mk (blk_drew BK401.out)
             replace HB := Aside0.mk (below_drew1 HB.out)
             refine start_ (n := 11) (S := fun w' => w'.cell? ⟨gb356, 0, none⟩ = some (.slice A0_0 l0_0.length c0_0) ∧ w'.cell? ⟨gb356, 1, none⟩ = some (.slice A0_1 l0_1.length c0_1) ∧ w'.cell? ⟨gb357, 0, none⟩ = some (.slice A1_0 l1_0.length c1_0) ∧ w'.cell? ⟨gb357, 1, none⟩ = some (.slice A1_1 l1_1.length c1_1)) (ds := []) #[false, false, false, false, false, false, false, false, false, false, false] (by kernel_rfl) rfl rfl ⟨(blk_cell BK356.out 0).trans rfl, (blk_cell BK356.out 1).trans rfl, (blk_cell BK357.out 0).trans rfl, (blk_cell BK357.out 1).trans rfl⟩ (fun hHeld => ?_); refine with_tabW laws_FnExactDrop.tab31 laws_FnExactDrop.bits31 (fun HT_ HW_ => ?_)
             generalize w158.drew = w159 at HO_380000 HO_380001 HO_387000 HO_387001 HO_394000 HO_394001 HO_402000 HO_402001 BK356 BK357 BK379 BK386 BK393 BK401 HB hHeld ⊢
             refine take_ (i := 0) (N := some 95) (v := ?_) (a' := ?_) #[true, false, false, false, false, false, false, false, false, false, false] rfl rfl (take_ofW HT_.out HW_.out (by kernel_rfl)) (fun _ _ _ h => h) (Or.inl ⟨by rfl, ?_⟩) hHeld ?_ ?_
             rotate_left
             ·
              rintro w' ⟨s0, s1, s2, s3⟩
              go_simp
              with_reducible rfl
             rotate_left
             ·
              simp only [Act.put, List.setIfInBounds_toArray, List.set_cons_zero, List.set_cons_succ, i64_w, i32_w]
              rfl
             refine take_ (i := 2) (N := some 97) (v := ?_) (a' := ?_) #[true, false, true, false, false, false, false, false, false, false, false] rfl rfl (take_ofW HT_.out HW_.out (by kernel_rfl)) (fun _ _ _ h => h) (Or.inl ⟨by rfl, ?_⟩) hHeld ?_ ?_
             rotate_left
             ·
              rintro w' ⟨s0, s1, s2, s3⟩
              go_simp
              with_reducible rfl
             rotate_left
             ·
              simp only [Act.put, List.setIfInBounds_toArray, List.set_cons_zero, List.set_cons_succ, i64_w, i32_w]
              rfl
             rename_i h1_52 h1_75 h1_76 h1_78 h1_92 h1_109 h1_163 h1_166 h1_169 h1_172 h1_175 h1_178 h1_181 h1_208 h1_209 h1_210 h1_211 h1_212 h1_213 h1_214 h1_215 h1_216 h1_217 h1_218 h1_219 h1_220 h1_221 h1_222 h1_223 h1_224 h1_225 h1_226 h1_227 h1_228 h1_229 h1_230 h1_231 h1_232 h1_233 h1_234 h1_235 h1_236 h1_237 h1_238 h1_239 h1_240 h1_241 h1_242 h1_243 h1_244 h1_245 h1_246 h1_247 h1_248 h1_249 h1_250 h1_251 h1_252 h1_253 h1_254 h1_255 h1_256 h1_257 h1_258 h1_259 h1_260 h1_261 h1_262 h1_263 h1_264 h1_265 h1_266 h1_267 h1_268 h1_269 h1_270 h1_271 h1_272 h1_274 h1_275 h1_276 h1_277 h1_278 h1_279 h1_280 h1_281 h1_282 h1_283 h1_284 h1_285 h1_286 h1_287 h1_288 h1_289 h1_290 h1_291 h1_292 h1_293 h1_294 h1_295 h1_296 h1_297 h1_298 h1_299 h1_300 h1_301 h1_302 h1_303 h1_304 h1_305 h1_306 h1_307 h1_308 h1_309 h1_329 h1_335 h1_337 h1_339 h1_345 h1_347 h1_368 h1_369 h1_370 h1_371 h1_372 h1_373 h1_374 h1_375 h1_376 h1_377 h1_378 h1_379 h1_380 h1_381 h1_386 h1_535 h1_536
             revert k A0_0 c0_0 l0_0 A0_1 c0_1 l0_1 A1_0 c1_0 l1_0 A1_1 c1_1 l1_1 r w HT hu24 hu26 HR0_0 HC0_0 HR0_1 HC0_1 HR1_0 HC1_0 HR1_1 HC1_1 t358 A3 c4b0 t359 A10 c11b0 t360 t363 A19 t366 t369 A20 t372 t375 t378 A21 t380 t383 A22 t387 t390 A23 t394 t397 t400 A24 h1_52 gb356 w26 GW356 GE356 gb357 w27 GW357 GE357 NB356_357 NB357_356 hnb28 hnc28 hcz29_0 hcz29_1 hfz29_0 hfz29_1 w30 hcz31_0 hcz31_1 hfz31_0 hfz31_1 w32 h1_75 h1_76 w33 h1_78 v361 v364 v367 v370 gb379 w42 hS_ GW379 GE379 NB356_379 NB379_356 NB357_379 NB379_357 h1_92 Ao43 co43 Ao45 co45 hs44 hfs44 hns44_0 hns44_1 hms44_0 hms44_1 hs46 hfs46 hns46_0 hns46_1 hms46_0 hms46_1 h1_109 hnb47 hnc47 w49 gb386 w50 GW386 GE386 NB356_386 NB386_356 NB357_386 NB386_357 NB379_386 NB386_379 Ao51 co51 hnb52 hnc52 hnb53 hnc53 hnb54 hnc54 Ao56 co56 hnb57 hnc57 w59 gb393 w60 GW393 GE393 NB356_393 NB393_356 NB357_393 NB393_357 NB379_393 NB393_379 NB386_393 NB393_386 Ao61 co61 hnb62 hnc62 hnb63 hnc63 hnb64 hnc64 hnb65 hnc65 Ao67 co67 w69 gb401 w70 h1_163 GW401 GE401 h1_166 NB356_401 NB401_356 h1_169 NB357_401 NB401_357 h1_172 NB379_401 NB401_379 h1_175 NB386_401 NB401_386 h1_178 NB393_401 NB401_393 h1_181 Ao71 co71 hnb72 hnc72 hnb73 hnc73 hnb74 hnc74 hnb75 hnc75 hnb76 hnc76 Ao78 co78 HO362 HO365 HO368 HO371 HO374 HO377 HO382 HO385 HO389 HO392 HO396 HO399 h1_208 h1_209 h1_210 h1_211 h1_212 h1_213 h1_214 h1_215 h1_216 h1_217 h1_218 h1_219 h1_220 h1_221 h1_222 h1_223 h1_224 h1_225 h1_226 h1_227 h1_228 h1_229 h1_230 h1_231 h1_232 h1_233 h1_234 h1_235 h1_236 h1_237 h1_238 h1_239 h1_240 h1_241 h1_242 h1_243 h1_244 h1_245 h1_246 h1_247 h1_248 h1_249 h1_250 h1_251 h1_252 h1_253 h1_254 h1_255 h1_256 h1_257 h1_258 h1_259 h1_260 h1_261 h1_262 h1_263 h1_264 h1_265 h1_266 h1_267 h1_268 h1_269 h1_270 h1_271 h1_272 u82 h1_274 h1_275 h1_276 h1_277 h1_278 h1_279 h1_280 h1_281 h1_282 h1_283 h1_284 h1_285 h1_286 h1_287 h1_288 h1_289 h1_290 h1_291 h1_292 h1_293 h1_294 h1_295 h1_296 h1_297 h1_298 h1_299 h1_300 h1_301 h1_302 h1_303 h1_304 h1_305 h1_306 h1_307 h1_308 h1_309 kj24 HJ24 t403 t406 A94 A95 t410 t413 A97 A98 t417 t418 t419 A100 t420 t421 t422 A101 w103 h1_329 w104 Ao105 co105 Ao106 co106 h1_335 w107 h1_337 w108 h1_339 w109 Ao110 co110 Ao111 co111 h1_345 w112 h1_347 hnb113 hnc113 hnb114 hnc114 hnb115 hnc115 hnb116 hnc116 hnb117 hnc117 w119 hnb120 hnc120 hnb121 hnc121 hnb122 hnc122 hnb123 hnc123 w125 h1_368 h1_369 h1_370 h1_371 h1_372 h1_373 h1_374 h1_375 h1_376 h1_377 h1_378 h1_379 h1_380 h1_381 HO405 HO408 HO412 HO415 h1_386 wc u17 u18 u19 u20 u21 u22 u23 u24 u25 u26 u27 u28 u29 u30 u31 u32 u33 u34 u35 u36 u37 u38 u39 u40 u41 u42 u43 u44 u45 u46 u47 u48 u49 u50 u51 u52 u53 u54 u55 u56 u57 u58 u59 u60 u61 u62 u63 u64 u65 u66 u67 u68 u69 u70 u71 u72 u73 u74 u75 u76 u77 u78 u79 u80 u81 u83 u84 u85 u86 u87 u88 u89 u90 u91 u92 u93 u94 u95 u96 u97 u98 u99 u100 u101 u102 u103 u104 u105 u106 u107 u108 u109 u110 u111 u112 u113 u114 u115 u116 u117 u118 hl387000_101 hl387001_101 hl394000_101 hl394001_101 kj101 HJ101 t424 t425 t426 A142 t427 A143 c144b0 c145b0 c145b1 t428 t431 A146 t434 t437 A147 t440 t443 t446 A148 HC149 hnb150 hnc150 hnb151 hnc151 hnb152 hnc152 hnb153 hnc153 hnb154 hnc154 hcz155_0 hcz155_1 hfz155_0 hfz155_1 w156 hcz157_0 hcz157_1 hfz157_0 hfz157_1 w158 h1_535 h1_536 HT_ HW_ w159 HO_380000 HO_380001 HO_387000 HO_387001 HO_394000 HO_394001 HO_402000 HO_402001 BK356 BK357 BK379 BK386 BK393 BK401 HB hHeld
             exact hRest_ trivial
            ·
             rw [if_neg c145] at H
             have c145b0 : (t427 == t424) = false := beq_eq_false_iff_ne.mpr c145
             have c145b1 : (t427 != t424) = true := bne_iff_ne.mpr c145
             obtain rfl := Option.some.inj H
             exact absurd HT.out (by decide)
       ·
        replace c99 := Bool.eq_false_iff.mpr c99
        subst c99
        have H1 : (some false) = some r := by rw [if_neg (show ¬ (false = true) by decide)] at H; exact H
        clear H
        have H := H1
        clear H1
        obtain rfl := Option.some.inj H
        exact absurd HT.out (by decide)
      ·
       replace c96 := Bool.eq_false_iff.mpr c96
       subst c96
       have H1 : (some false) = some r := by rw [if_neg (show ¬ (false = true) by decide)] at H; exact H
       clear H
       have H := H1
       clear H1
       obtain rfl := Option.some.inj H
       exact absurd HT.out (by decide)⟩
end Go.Proofs.Ytbiggdlopnpcbaa.PFnExactDrop
