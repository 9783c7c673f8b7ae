/- The walk of what a law reaches, for the law's row: written by a program of this session; it has no condition of its own. -/
import Derived.Test.YtcnbajdnlkcjjaaPFnExactCopyx0
import Derived.Test.YtcnbajdnlkcjjaaQ
import Derived.Test.YtcnbajdnlkcjjaaPFnExactCopyx1
import Derived.Test.YtcnbajdnlkcjjaaPFnExactCopyx4
import Derived.Test.YtcnbajdnlkcjjaaPFnExactCopyx8
namespace Go.Proofs.Ytcnbajdnlkcjjaa.PFnExactCopy
open Go.RowKit Go.Proofs.YtcnbajdnlkcjjaaW.PrintWords Go.Proofs.YtcnbajdnlkcjjaaW.PrintLast Go.Proofs.YtcnbajdnlkcjjaaW.PrintMore Go.Proofs.YtcnbajdnlkcjjaaQ
attribute [local go_sem] max2_int min2_int max_two min_two max_three min_three max_four min_four   -- for this text's walks alone
set_option linter.unusedVariables false
set_option linter.unusedSimpArgs false
theorem bS5 {P Q A B C D E : Prop} (h : P) (a : A) (b : B) (c : C) (d : D) (e : E) (fn_ : P → A → B → C → D → E → Q := by intro h_ a_ b_ c_ d_ e_; repeat (first | (with_reducible first | exact h_ | apply below_alloc | apply pw_below_drewN | apply below_drew1 | refine below_set ?_ a_ | refine below_set ?_ b_ | refine below_set ?_ c_ | refine below_set ?_ d_ | refine below_set ?_ e_) | exact h_)) : Q := fn_ h a b c d e
theorem bS6 {P Q A B C D E F : Prop} (h : P) (a : A) (b : B) (c : C) (d : D) (e : E) (f : F) (fn_ : P → A → B → C → D → E → F → Q := by intro h_ a_ b_ c_ d_ e_ f_; repeat (first | (with_reducible first | exact h_ | apply below_alloc | apply pw_below_drewN | apply below_drew1 | refine below_set ?_ a_ | refine below_set ?_ b_ | refine below_set ?_ c_ | refine below_set ?_ d_ | refine below_set ?_ e_ | refine below_set ?_ f_) | exact h_)) : Q := fn_ h a b c d e f
theorem bS7 {P Q A B C D E F G : Prop} (h : P) (a : A) (b : B) (c : C) (d : D) (e : E) (f : F) (g : G) (fn_ : P → A → B → C → D → E → F → G → Q := by intro h_ a_ b_ c_ d_ e_ f_ g_; repeat (first | (with_reducible first | exact h_ | apply below_alloc | apply pw_below_drewN | apply below_drew1 | refine below_set ?_ a_ | refine below_set ?_ b_ | refine below_set ?_ c_ | refine below_set ?_ d_ | refine below_set ?_ e_ | refine below_set ?_ f_ | refine below_set ?_ g_) | exact h_)) : Q := fn_ h a b c d e f g

/-! ### laws_FnExactCopy: function 9 -/
mutual
def laws_FnExactCopy.j0 : Nat → Int → Int → Bool → List Int → List Int → List Int → List Int → List Int → List Int → List Int → List Int → List Int → List Int → List Int → List Int → Option (Bool)
 | 0, _, _, _, _, _, _, _, _, _, _, _, _, _, _, _ => none
 | k + 1, x7, x11, x53, x273000, x273001, x274000, x274001, x296000, x296001, x303000, x303001, x310000, x310001, x318000, x318001 => if x53 = true then (some false) else ((laws_toArray.f k x273000 x273001).bind fun bt319 => ((laws_eqArray.f k x303000 x303001 bt319.1 bt319.2).bind fun t325 => (if t325 = true then ((laws_toArray.f k x274000 x274001).bind fun bt326 => ((laws_eqArray.f k x310000 x310001 bt326.1 bt326.2).bind fun t332 => (if t332 = true then ((laws_markArray.f k x303000 x303001 1).bind fun bt333 => ((laws_markArray.f k x310000 x310001 bt333.1).bind fun bt336 => (if bt336.1 < 0 then (laws_FnExactCopy.j1 k x7 true x273000 x273001 x274000 x274001 x296000 x296001 x318000 x318001) else ((laws_eqArray.f k x318000 x318001 x296000 x296001).bind fun t339 => (if t339 = true then (laws_FnExactCopy.j1 k x7 (x11 != x7) x273000 x273001 x274000 x274001 x296000 x296001 x318000 x318001) else (laws_FnExactCopy.j1 k x7 true x273000 x273001 x274000 x274001 x296000 x296001 x318000 x318001)))))) else (some false)))) else (some false))))
def laws_FnExactCopy.j1 : Nat → Int → Bool → List Int → List Int → List Int → List Int → List Int → List Int → List Int → List Int → Option (Bool)
 | 0, _, _, _, _, _, _, _, _, _, _ => none
 | k + 1, x7, x82, x273000, x273001, x274000, x274001, x296000, x296001, x318000, x318001 => if x82 = true then (some false) else ((laws_markArray.f k x318000 x318001 1).bind fun bt340 => ((laws_heldArray.f k bt340.2.1 bt340.2.2 1).bind fun t343 => (if t343 < 0 then (some false) else (if t343 = bt340.1 then ((laws_toArray.f k x273000 x273001).bind fun bt344 => ((laws_toArray.f k x274000 x274001).bind fun bt350 => ((impl_Copy.f k bt344.1 bt344.2 bt350.1 bt350.2).bind fun bt356 => ((laws_eqArray.f k bt356.1 bt356.2.1 x296000 x296001).bind fun t364 => (if t364 = true then (laws_FnExactCopy.j2 k bt340.1 (bt356.2.2 != x7) bt340.2.1 bt340.2.2) else (laws_FnExactCopy.j2 k bt340.1 true bt340.2.1 bt340.2.2)))))) else (some false)))))
def laws_FnExactCopy.j2 : Nat → Int → Bool → List Int → List Int → Option (Bool)
 | 0, _, _, _, _ => none
 | k + 1, x13, x110, x318000, x318001 => if x110 = true then (some false) else ((laws_heldArray.f k x318000 x318001 1).bind fun t365 => (if t365 < 0 then (some false) else (if t365 = x13 then (some true) else (some false))))
end
def laws_FnExactCopy.f (k : Nat) (l0_0 : List Int) (l0_1 : List Int) (l1_0 : List Int) (l1_1 : List Int) : Option (Bool) := (laws_szArray.f l0_0 l0_1 1048576).bind fun t274 => (if t274 < 0 then (some true) else ((laws_szArray.f l1_0 l1_1 t274).bind fun t275 => (if t275 < 0 then (some true) else ((laws_toArray.f k l0_0 l0_1).bind fun bt276 => ((laws_toArray.f k l1_0 l1_1).bind fun bt282 => ((spec_Copy.f k bt276.1 bt276.2 bt282.1 bt282.2).bind fun bt288 => ((laws_toArray.f k l0_0 l0_1).bind fun bt296 => ((laws_toArray.f k l1_0 l1_1).bind fun bt303 => ((impl_Copy.f k bt296.1 bt296.2 bt303.1 bt303.2).bind fun bt310 => ((laws_eqArray.f k bt310.1 bt310.2.1 bt288.1 bt288.2.1).bind fun t318 => (if t318 = true then (laws_FnExactCopy.j0 k bt288.2.2 bt310.2.2 (bt310.2.2 != bt288.2.2) l0_0 l0_1 l1_0 l1_1 bt288.1 bt288.2.1 bt296.1 bt296.2 bt303.1 bt303.2 bt310.1 bt310.2.1) else (laws_FnExactCopy.j0 k bt288.2.2 bt310.2.2 true l0_0 l0_1 l1_0 l1_1 bt288.1 bt288.2.1 bt296.1 bt296.2 bt303.1 bt303.2 bt310.1 bt310.2.1))))))))))))
theorem laws_FnExactCopy.mono_l : ∀ k, (∀ y0 y1 y2 y3 y4 y5 y6 y7 y8 y9 y10 y11 y12 y13 y14, LeO (laws_FnExactCopy.j0 k y0 y1 y2 y3 y4 y5 y6 y7 y8 y9 y10 y11 y12 y13 y14) (laws_FnExactCopy.j0 (k + 1) y0 y1 y2 y3 y4 y5 y6 y7 y8 y9 y10 y11 y12 y13 y14)) ∧ (∀ y0 y1 y2 y3 y4 y5 y6 y7 y8 y9, LeO (laws_FnExactCopy.j1 k y0 y1 y2 y3 y4 y5 y6 y7 y8 y9) (laws_FnExactCopy.j1 (k + 1) y0 y1 y2 y3 y4 y5 y6 y7 y8 y9)) ∧ (∀ y0 y1 y2 y3, LeO (laws_FnExactCopy.j2 k y0 y1 y2 y3) (laws_FnExactCopy.j2 (k + 1) y0 y1 y2 y3))
 | 0 => ⟨fun _ _ _ _ _ _ _ _ _ _ _ _ _ _ _ r h => by simp [laws_FnExactCopy.j0] at h, fun _ _ _ _ _ _ _ _ _ _ r h => by simp [laws_FnExactCopy.j1] at h, fun _ _ _ _ r h => by simp [laws_FnExactCopy.j2] at h⟩
 | k + 1 => by
  obtain ⟨ih0, ih1, ih2⟩ := laws_FnExactCopy.mono_l k
  refine ⟨?_, ?_, ?_⟩
  ·
   intro y0 y1 y2 y3 y4 y5 y6 y7 y8 y9 y10 y11 y12 y13 y14
   unfold laws_FnExactCopy.j0
   repeat' first
   | (with_reducible exact ih0 _ _ _ _ _ _ _ _ _ _ _ _ _ _ _)
   | (with_reducible exact ih1 _ _ _ _ _ _ _ _ _ _)
   | (with_reducible exact ih2 _ _ _ _)
   | (with_reducible exact impl_Copy.mono _ _ _ _ _)
   | (with_reducible exact laws_eqArray.mono _ _ _ _ _)
   | (with_reducible exact laws_heldArray.mono _ _ _ _)
   | (with_reducible exact laws_markArray.mono _ _ _ _)
   | (with_reducible exact laws_toArray.mono _ _ _)
   | (with_reducible exact spec_Copy.mono _ _ _ _ _)
   | (with_reducible exact LeO.refl _)
   | (with_reducible exact LeO.none _)
   | (with_reducible refine LeO.ite ?_ ?_)
   | (with_reducible refine LeO.bind ?_ (fun _ => ?_))
   | exact ih0 _ _ _ _ _ _ _ _ _ _ _ _ _ _ _
   | exact ih1 _ _ _ _ _ _ _ _ _ _
   | exact ih2 _ _ _ _
   | exact impl_Copy.mono _ _ _ _ _
   | exact laws_eqArray.mono _ _ _ _ _
   | exact laws_heldArray.mono _ _ _ _
   | exact laws_markArray.mono _ _ _ _
   | exact laws_toArray.mono _ _ _
   | exact spec_Copy.mono _ _ _ _ _
   | exact LeO.none _
   | refine LeO.ite ?_ ?_
   | refine LeO.bind ?_ (fun _ => ?_)
  ·
   intro y0 y1 y2 y3 y4 y5 y6 y7 y8 y9
   unfold laws_FnExactCopy.j1
   repeat' first
   | (with_reducible exact ih0 _ _ _ _ _ _ _ _ _ _ _ _ _ _ _)
   | (with_reducible exact ih1 _ _ _ _ _ _ _ _ _ _)
   | (with_reducible exact ih2 _ _ _ _)
   | (with_reducible exact impl_Copy.mono _ _ _ _ _)
   | (with_reducible exact laws_eqArray.mono _ _ _ _ _)
   | (with_reducible exact laws_heldArray.mono _ _ _ _)
   | (with_reducible exact laws_markArray.mono _ _ _ _)
   | (with_reducible exact laws_toArray.mono _ _ _)
   | (with_reducible exact spec_Copy.mono _ _ _ _ _)
   | (with_reducible exact LeO.refl _)
   | (with_reducible exact LeO.none _)
   | (with_reducible refine LeO.ite ?_ ?_)
   | (with_reducible refine LeO.bind ?_ (fun _ => ?_))
   | exact ih0 _ _ _ _ _ _ _ _ _ _ _ _ _ _ _
   | exact ih1 _ _ _ _ _ _ _ _ _ _
   | exact ih2 _ _ _ _
   | exact impl_Copy.mono _ _ _ _ _
   | exact laws_eqArray.mono _ _ _ _ _
   | exact laws_heldArray.mono _ _ _ _
   | exact laws_markArray.mono _ _ _ _
   | exact laws_toArray.mono _ _ _
   | exact spec_Copy.mono _ _ _ _ _
   | exact LeO.none _
   | refine LeO.ite ?_ ?_
   | refine LeO.bind ?_ (fun _ => ?_)
  ·
   intro y0 y1 y2 y3
   unfold laws_FnExactCopy.j2
   repeat' first
   | (with_reducible exact ih0 _ _ _ _ _ _ _ _ _ _ _ _ _ _ _)
   | (with_reducible exact ih1 _ _ _ _ _ _ _ _ _ _)
   | (with_reducible exact ih2 _ _ _ _)
   | (with_reducible exact impl_Copy.mono _ _ _ _ _)
   | (with_reducible exact laws_eqArray.mono _ _ _ _ _)
   | (with_reducible exact laws_heldArray.mono _ _ _ _)
   | (with_reducible exact laws_markArray.mono _ _ _ _)
   | (with_reducible exact laws_toArray.mono _ _ _)
   | (with_reducible exact spec_Copy.mono _ _ _ _ _)
   | (with_reducible exact LeO.refl _)
   | (with_reducible exact LeO.none _)
   | (with_reducible refine LeO.ite ?_ ?_)
   | (with_reducible refine LeO.bind ?_ (fun _ => ?_))
   | exact ih0 _ _ _ _ _ _ _ _ _ _ _ _ _ _ _
   | exact ih1 _ _ _ _ _ _ _ _ _ _
   | exact ih2 _ _ _ _
   | exact impl_Copy.mono _ _ _ _ _
   | exact laws_eqArray.mono _ _ _ _ _
   | exact laws_heldArray.mono _ _ _ _
   | exact laws_markArray.mono _ _ _ _
   | exact laws_toArray.mono _ _ _
   | exact spec_Copy.mono _ _ _ _ _
   | exact LeO.none _
   | refine LeO.ite ?_ ?_
   | refine LeO.bind ?_ (fun _ => ?_)
theorem laws_FnExactCopy.mono : ∀ a0 a1 a2 a3 k, LeO (laws_FnExactCopy.f k a0 a1 a2 a3) (laws_FnExactCopy.f (k + 1) a0 a1 a2 a3) := by
 intro a0 a1 a2 a3 k
 obtain ⟨ih0, ih1, ih2⟩ := laws_FnExactCopy.mono_l k
 unfold laws_FnExactCopy.f
 repeat' first
   | (with_reducible exact ih0 _ _ _ _ _ _ _ _ _ _ _ _ _ _ _)
   | (with_reducible exact ih1 _ _ _ _ _ _ _ _ _ _)
   | (with_reducible exact ih2 _ _ _ _)
   | (with_reducible exact impl_Copy.mono _ _ _ _ _)
   | (with_reducible exact laws_eqArray.mono _ _ _ _ _)
   | (with_reducible exact laws_heldArray.mono _ _ _ _)
   | (with_reducible exact laws_markArray.mono _ _ _ _)
   | (with_reducible exact laws_toArray.mono _ _ _)
   | (with_reducible exact spec_Copy.mono _ _ _ _ _)
   | (with_reducible exact LeO.refl _)
   | (with_reducible exact LeO.none _)
   | (with_reducible refine LeO.ite ?_ ?_)
   | (with_reducible refine LeO.bind ?_ (fun _ => ?_))
   | exact ih0 _ _ _ _ _ _ _ _ _ _ _ _ _ _ _
   | exact ih1 _ _ _ _ _ _ _ _ _ _
   | exact ih2 _ _ _ _
   | exact impl_Copy.mono _ _ _ _ _
   | exact laws_eqArray.mono _ _ _ _ _
   | exact laws_heldArray.mono _ _ _ _
   | exact laws_markArray.mono _ _ _ _
   | exact laws_toArray.mono _ _ _
   | exact spec_Copy.mono _ _ _ _ _
   | exact LeO.none _
   | refine LeO.ite ?_ ?_
   | refine LeO.bind ?_ (fun _ => ?_)
def laws_FnExactCopy.T8 : Bool × List (List Nat × List Nat) := (true, [([], []), ([0], [0]), ([], []), ([2, 1], [2]), ([1, 3, 3], [1, 3]), ([4], [4]), ([5], [5]), ([5], [5]), ([], []), ([8, 6, 4, 0, 1, 2, 3, 4, 5, 6, 8], [6, 8]), ([7, 9, 0, 1, 2, 3, 4, 5, 6, 7, 8, 9], [7])])
def laws_FnExactCopy.B8 : List Nat := [0, 1, 0, 7, 15, 31, 63, 63, 0, 383, 1023]
theorem laws_FnExactCopy.tab8 : rtab .any (opsOf Try.f9 8) = laws_FnExactCopy.T8 := by kernel_rfl
theorem laws_FnExactCopy.bits8 : waitsOk laws_FnExactCopy.T8.2 laws_FnExactCopy.B8 = true := by kernel_rfl
def laws_FnExactCopy.T31 : Bool × List (List Nat × List Nat) := (true, [([], []), ([0], [0]), ([], []), ([2, 1], [2]), ([1, 3, 3], [1, 3]), ([4], [4]), ([5], [5]), ([5], [5]), ([], []), ([8, 6, 4, 0, 1, 2, 3, 4, 5, 6, 8], [6, 8]), ([7, 9, 0, 1, 2, 3, 4, 5, 6, 7, 8, 9], [7])])
def laws_FnExactCopy.B31 : List Nat := [0, 1, 0, 7, 15, 31, 63, 63, 0, 383, 1023]
theorem laws_FnExactCopy.tab31 : rtab .any (opsOf Try.f9 31) = laws_FnExactCopy.T31 := by kernel_rfl
theorem laws_FnExactCopy.bits31 : waitsOk laws_FnExactCopy.T31.2 laws_FnExactCopy.B31 = true := by kernel_rfl
set_option maxHeartbeats 8000000 in
set_option maxRecDepth 100000 in
def laws_FnExactCopy.part1 : {P : Prop // (True → P) → ∀ (k : Nat) (A0_0 : Option Addr) (c0_0 : Nat) (l0_0 : List Int) (A0_1 : Option Addr) (c0_1 : Nat) (l0_1 : List Int) (A1_0 : Option Addr) (c1_0 : Nat) (l1_0 : List Int) (A1_1 : Option Addr) (c1_1 : Nat) (l1_1 : List Int) (r : Bool) (w : World) (hr0_0 : Kd.C (Kd.int .i64) w A0_0 l0_0.length l0_0) (hc0_0 : l0_0.length ≤ c0_0) (hr0_1 : Kd.C (Kd.int .i64) w A0_1 l0_1.length l0_1) (hc0_1 : l0_1.length ≤ c0_1) (hr1_0 : Kd.C (Kd.int .i64) w A1_0 l1_0.length l1_0) (hc1_0 : l1_0.length ≤ c1_0) (hr1_1 : Kd.C (Kd.int .i64) w A1_1 l1_1.length l1_1) (hc1_1 : l1_1.length ≤ c1_1) (h : laws_FnExactCopy.f k l0_0 l0_1 l1_0 l1_1 = some r) (hT : r = true), Calls Try.prog 9 #[.agg #[.slice A0_0 l0_0.length c0_0, .slice A0_1 l0_1.length c0_1], .agg #[.slice A1_0 l1_0.length c1_0, .slice A1_1 l1_1.length c1_1]] w fun e w' => e = .returned (.bool r) ∧ Below w.heap.size w w'} := ⟨_, fun hRest_ => by
 intro k A0_0 c0_0 l0_0 A0_1 c0_1 l0_1 A1_0 c1_0 l1_0 A1_1 c1_1 l1_1 r w hr0_0 hc0_0 hr0_1 hc0_1 hr1_0 hc1_0 hr1_1 hc1_1 h hT
 have HT := Aside0.mk hT
 clear hT
 have hu24 := Try.underlying24
 have hu26 := Try.underlying26
 have HR0_0 := Aside0.mk hr0_0
 have HC0_0 := Aside0.mk hc0_0
 clear hr0_0 hc0_0
 have HR0_1 := Aside0.mk hr0_1
 have HC0_1 := Aside0.mk hc0_1
 clear hr0_1 hc0_1
 have HR1_0 := Aside0.mk hr1_0
 have HC1_0 := Aside0.mk hc1_0
 clear hr1_0 hc1_0
 have HR1_1 := Aside0.mk hr1_1
 have HC1_1 := Aside0.mk hc1_1
 clear hr1_1 hc1_1
 have HB := Aside0.mk (Below.refl w.heap.size w)
 have H : ((laws_szArray.f l0_0 l0_1 1048576).bind fun t274 => (if t274 < 0 then (some true) else ((laws_szArray.f l1_0 l1_1 t274).bind fun t275 => (if t275 < 0 then (some true) else ((laws_toArray.f k l0_0 l0_1).bind fun bt276 => ((laws_toArray.f k l1_0 l1_1).bind fun bt282 => ((spec_Copy.f k bt276.1 bt276.2 bt282.1 bt282.2).bind fun bt288 => ((laws_toArray.f k l0_0 l0_1).bind fun bt296 => ((laws_toArray.f k l1_0 l1_1).bind fun bt303 => ((impl_Copy.f k bt296.1 bt296.2 bt303.1 bt303.2).bind fun bt310 => ((laws_eqArray.f k bt310.1 bt310.2.1 bt288.1 bt288.2.1).bind fun t318 => (if t318 = true then (laws_FnExactCopy.j0 k bt288.2.2 bt310.2.2 (bt310.2.2 != bt288.2.2) l0_0 l0_1 l1_0 l1_1 bt288.1 bt288.2.1 bt296.1 bt296.2 bt303.1 bt303.2 bt310.1 bt310.2.1) else (laws_FnExactCopy.j0 k bt288.2.2 bt310.2.2 true l0_0 l0_1 l1_0 l1_1 bt288.1 bt288.2.1 bt296.1 bt296.2 bt303.1 bt303.2 bt310.1 bt310.2.1))))))))))))) = some r := h
 clear h
 replace H := Option.bind_eq_some_iff.mp H
 obtain ⟨t274, A30, H⟩ := H
 replace H : (if t274 < 0 then (some true) else ((laws_szArray.f l1_0 l1_1 t274).bind fun t275 => (if t275 < 0 then (some true) else ((laws_toArray.f k l0_0 l0_1).bind fun bt276 => ((laws_toArray.f k l1_0 l1_1).bind fun bt282 => ((spec_Copy.f k bt276.1 bt276.2 bt282.1 bt282.2).bind fun bt288 => ((laws_toArray.f k l0_0 l0_1).bind fun bt296 => ((laws_toArray.f k l1_0 l1_1).bind fun bt303 => ((impl_Copy.f k bt296.1 bt296.2 bt303.1 bt303.2).bind fun bt310 => ((laws_eqArray.f k bt310.1 bt310.2.1 bt288.1 bt288.2.1).bind fun t318 => (if t318 = true then (laws_FnExactCopy.j0 k bt288.2.2 bt310.2.2 (bt310.2.2 != bt288.2.2) l0_0 l0_1 l1_0 l1_1 bt288.1 bt288.2.1 bt296.1 bt296.2 bt303.1 bt303.2 bt310.1 bt310.2.1) else (laws_FnExactCopy.j0 k bt288.2.2 bt310.2.2 true l0_0 l0_1 l1_0 l1_1 bt288.1 bt288.2.1 bt296.1 bt296.2 bt303.1 bt303.2 bt310.1 bt310.2.1)))))))))))) = some r := H
 have A3 := Aside0.mk A30
 clear A30
 by_cases c4 : t274 < 0
 ·
  rw [if_pos c4] at H
  have c4b0 : decide (t274 < 0) = true := decide_eq_true c4
  clear c4
  obtain rfl := Option.some.inj H
  go_enter Try.func9, Try.ntmps9
  go_wp2_with (first | ((with_reducible refine gate_dst (N := 2) rfl ?_); refine box_event ?hg (N := 2) ?hd (cs := #[.slice A0_0 l0_0.length c0_0, .slice A0_1 l0_1.length c0_1]) (t := 24) ?hr ?_; (case hd => rfl); (case hg => rfl); (case hr => first | (go_simp; done) | (go_simp; rfl)); intro gb272 hg w5 hbox hb; have BK272 := Aside0.mk (hbox); have GW272 := Aside0.mk ((by rw [hg]; exact (below_size (bU HB.out)) : w.heap.size ≤ gb272)); have GE272 := Aside0.mk ((by rw [hg]; exact (below_size (bU HB.out)) : w.heap.size ≤ gb272)); replace HB := Aside0.mk (below_step (bU HB.out) hb); clear hb hbox hg) | ((with_reducible refine gate_dst (N := 3) rfl ?_); refine box_event ?hg (N := 3) ?hd (cs := #[.slice A1_0 l1_0.length c1_0, .slice A1_1 l1_1.length c1_1]) (t := 24) ?hr ?_; (case hd => rfl); (case hg => rfl); (case hr => first | (go_simp; done) | (go_simp; rfl)); intro gb273 hg w6 hbox hb; have BK273 := Aside0.mk (hbox); have GW273 := Aside0.mk ((by rw [hg]; exact (below_size (bS1 HB.out GE272.out)) : w.heap.size ≤ gb273)); have GE273 := Aside0.mk ((by rw [hg]; exact (below_size (bS1 HB.out GE272.out)) : w.heap.size ≤ gb273)); replace HB := Aside0.mk (below_step (bS1 HB.out GE272.out) hb); have NB272_273 := Aside0.mk ((by rw [hg]; exact Nat.ne_of_lt (blk_lt (g := gb272) (o := .cells #[.slice A0_0 l0_0.length c0_0, .slice A0_1 l0_1.length c0_1] 24 (0, 0)) (kU BK272.out)) : gb272 ≠ gb273)); have NB273_272 := Aside0.mk ((by rw [hg]; exact Nat.ne_of_gt (blk_lt (g := gb272) (o := .cells #[.slice A0_0 l0_0.length c0_0, .slice A0_1 l0_1.length c0_1] 24 (0, 0)) (kU BK272.out)) : gb273 ≠ gb272)); replace BK272 := Aside0.mk (blk_below (g := gb272) (o := .cells #[.slice A0_0 l0_0.length c0_0, .slice A0_1 l0_1.length c0_1] 24 (0, 0)) (kU BK272.out) hb); clear hb hbox hg; have hnb7 := NB272_273.out; have hnc7 := NB273_272.out; have hcz8_0 : w6.cell? ⟨gb272, 0, none⟩ = some (.slice A0_0 l0_0.length c0_0) := (blk_cell BK272.out 0).trans rfl; have hcz8_1 : w6.cell? ⟨gb272, 1, none⟩ = some (.slice A0_1 l0_1.length c0_1) := (blk_cell BK272.out 1).trans rfl; have hfz8_0 := blk_frozen BK272.out 0; have hfz8_1 := blk_frozen BK272.out 1) | ((with_reducible refine gate_callee (f := 15) rfl ?_); refine goesL_ (some 19) rfl rfl Try.func15 (by kernel_rfl) rfl #[.agg #[.slice A0_0 l0_0.length c0_0, .slice A0_1 l0_1.length c0_1], .int .i64 1048576] rfl (by (try simp only [List.map_toArray, List.map_cons, List.map_nil]); first | done | rfl | (simp only [List.length_drop, List.length_take]; rfl)) ?_; (with_reducible refine (laws_szArray.calls _ _ l0_0 _ _ l0_1 1048576 t274 _ ?side1 ?side2 ?side3 ?side4 A3.out).mono ?_); (case side1 => exact cU (Kd.C_below HR0_0.out HB.out)); (case side2 => exact HC0_0.out); (case side3 => exact cU (Kd.C_below HR0_1.out HB.out)); (case side4 => exact HC0_1.out); rintro e w9 ⟨rfl, hb⟩; refine ⟨_, rfl, ?_⟩; replace BK272 := Aside0.mk (blk_below (g := gb272) (o := .cells #[.slice A0_0 l0_0.length c0_0, .slice A0_1 l0_1.length c0_1] 24 (0, 0)) (kU BK272.out) hb); replace BK273 := Aside0.mk (blk_below (g := gb273) (o := .cells #[.slice A1_0 l1_0.length c1_0, .slice A1_1 l1_1.length c1_1] 24 (0, 0)) (kU BK273.out) hb); replace HB := Aside0.mk (below_step (bS2 HB.out GE272.out GE273.out) hb); (try clear hb); (try clear hb2); (try clear hk); (try clear hi)))
  go_ret
  exact ⟨by first | rfl | (simp [errW_none, errW_some] <;> rfl) | (simp [*, errW_none, errW_some] <;> rfl), by exact bS2 HB.out GE272.out GE273.out⟩
 ·
  rw [if_neg c4] at H
  have c4b0 : decide (t274 < 0) = false := decide_eq_false c4
  clear c4
  replace H := Option.bind_eq_some_iff.mp H
  obtain ⟨t275, A100, H⟩ := H
  replace H : (if t275 < 0 then (some true) else ((laws_toArray.f k l0_0 l0_1).bind fun bt276 => ((laws_toArray.f k l1_0 l1_1).bind fun bt282 => ((spec_Copy.f k bt276.1 bt276.2 bt282.1 bt282.2).bind fun bt288 => ((laws_toArray.f k l0_0 l0_1).bind fun bt296 => ((laws_toArray.f k l1_0 l1_1).bind fun bt303 => ((impl_Copy.f k bt296.1 bt296.2 bt303.1 bt303.2).bind fun bt310 => ((laws_eqArray.f k bt310.1 bt310.2.1 bt288.1 bt288.2.1).bind fun t318 => (if t318 = true then (laws_FnExactCopy.j0 k bt288.2.2 bt310.2.2 (bt310.2.2 != bt288.2.2) l0_0 l0_1 l1_0 l1_1 bt288.1 bt288.2.1 bt296.1 bt296.2 bt303.1 bt303.2 bt310.1 bt310.2.1) else (laws_FnExactCopy.j0 k bt288.2.2 bt310.2.2 true l0_0 l0_1 l1_0 l1_1 bt288.1 bt288.2.1 bt296.1 bt296.2 bt303.1 bt303.2 bt310.1 bt310.2.1)))))))))) = some r := H
  have A10 := Aside0.mk A100
  clear A100
  by_cases c11 : t275 < 0
  ·
   rw [if_pos c11] at H
   have c11b0 : decide (t275 < 0) = true := decide_eq_true c11
   clear c11
   obtain rfl := Option.some.inj H
   go_enter Try.func9, Try.ntmps9
   go_wp2_with (first | ((with_reducible refine gate_dst (N := 2) rfl ?_); refine box_event ?hg (N := 2) ?hd (cs := #[.slice A0_0 l0_0.length c0_0, .slice A0_1 l0_1.length c0_1]) (t := 24) ?hr ?_; (case hd => rfl); (case hg => rfl); (case hr => first | (go_simp; done) | (go_simp; rfl)); intro gb272 hg w12 hbox hb; have BK272 := Aside0.mk (hbox); have GW272 := Aside0.mk ((by rw [hg]; exact (below_size (bU HB.out)) : w.heap.size ≤ gb272)); have GE272 := Aside0.mk ((by rw [hg]; exact (below_size (bU HB.out)) : w.heap.size ≤ gb272)); replace HB := Aside0.mk (below_step (bU HB.out) hb); clear hb hbox hg) | ((with_reducible refine gate_dst (N := 3) rfl ?_); refine box_event ?hg (N := 3) ?hd (cs := #[.slice A1_0 l1_0.length c1_0, .slice A1_1 l1_1.length c1_1]) (t := 24) ?hr ?_; (case hd => rfl); (case hg => rfl); (case hr => first | (go_simp; done) | (go_simp; rfl)); intro gb273 hg w13 hbox hb; have BK273 := Aside0.mk (hbox); have GW273 := Aside0.mk ((by rw [hg]; exact (below_size (bS1 HB.out GE272.out)) : w.heap.size ≤ gb273)); have GE273 := Aside0.mk ((by rw [hg]; exact (below_size (bS1 HB.out GE272.out)) : w.heap.size ≤ gb273)); replace HB := Aside0.mk (below_step (bS1 HB.out GE272.out) hb); have NB272_273 := Aside0.mk ((by rw [hg]; exact Nat.ne_of_lt (blk_lt (g := gb272) (o := .cells #[.slice A0_0 l0_0.length c0_0, .slice A0_1 l0_1.length c0_1] 24 (0, 0)) (kU BK272.out)) : gb272 ≠ gb273)); have NB273_272 := Aside0.mk ((by rw [hg]; exact Nat.ne_of_gt (blk_lt (g := gb272) (o := .cells #[.slice A0_0 l0_0.length c0_0, .slice A0_1 l0_1.length c0_1] 24 (0, 0)) (kU BK272.out)) : gb273 ≠ gb272)); replace BK272 := Aside0.mk (blk_below (g := gb272) (o := .cells #[.slice A0_0 l0_0.length c0_0, .slice A0_1 l0_1.length c0_1] 24 (0, 0)) (kU BK272.out) hb); clear hb hbox hg; have hnb14 := NB272_273.out; have hnc14 := NB273_272.out; have hcz15_0 : w13.cell? ⟨gb272, 0, none⟩ = some (.slice A0_0 l0_0.length c0_0) := (blk_cell BK272.out 0).trans rfl; have hcz15_1 : w13.cell? ⟨gb272, 1, none⟩ = some (.slice A0_1 l0_1.length c0_1) := (blk_cell BK272.out 1).trans rfl; have hfz15_0 := blk_frozen BK272.out 0; have hfz15_1 := blk_frozen BK272.out 1) | ((with_reducible refine gate_callee (f := 15) rfl ?_); refine goesL_ (some 19) rfl rfl Try.func15 (by kernel_rfl) rfl #[.agg #[.slice A0_0 l0_0.length c0_0, .slice A0_1 l0_1.length c0_1], .int .i64 1048576] rfl (by (try simp only [List.map_toArray, List.map_cons, List.map_nil]); first | done | rfl | (simp only [List.length_drop, List.length_take]; rfl)) ?_; (with_reducible refine (laws_szArray.calls _ _ l0_0 _ _ l0_1 1048576 t274 _ ?side1 ?side2 ?side3 ?side4 A3.out).mono ?_); (case side1 => exact cU (Kd.C_below HR0_0.out HB.out)); (case side2 => exact HC0_0.out); (case side3 => exact cU (Kd.C_below HR0_1.out HB.out)); (case side4 => exact HC0_1.out); rintro e w16 ⟨rfl, hb⟩; refine ⟨_, rfl, ?_⟩; replace BK272 := Aside0.mk (blk_below (g := gb272) (o := .cells #[.slice A0_0 l0_0.length c0_0, .slice A0_1 l0_1.length c0_1] 24 (0, 0)) (kU BK272.out) hb); replace BK273 := Aside0.mk (blk_below (g := gb273) (o := .cells #[.slice A1_0 l1_0.length c1_0, .slice A1_1 l1_1.length c1_1] 24 (0, 0)) (kU BK273.out) hb); replace HB := Aside0.mk (below_step (bS2 HB.out GE272.out GE273.out) hb); (try clear hb); (try clear hb2); (try clear hk); (try clear hi); have hcz17_0 : w16.cell? ⟨gb273, 0, none⟩ = some (.slice A1_0 l1_0.length c1_0) := (blk_cell BK273.out 0).trans rfl; have hcz17_1 : w16.cell? ⟨gb273, 1, none⟩ = some (.slice A1_1 l1_1.length c1_1) := (blk_cell BK273.out 1).trans rfl; have hfz17_0 := blk_frozen BK273.out 0; have hfz17_1 := blk_frozen BK273.out 1) | ((with_reducible refine gate_callee (f := 15) rfl ?_); refine goesL_ (some 24) rfl rfl Try.func15 (by kernel_rfl) rfl #[.agg #[.slice A1_0 l1_0.length c1_0, .slice A1_1 l1_1.length c1_1], .int .i64 t274] rfl (by (try simp only [List.map_toArray, List.map_cons, List.map_nil]); first | done | rfl | (simp only [List.length_drop, List.length_take]; rfl)) ?_; (with_reducible refine (laws_szArray.calls _ _ l1_0 _ _ l1_1 t274 t275 _ ?side1 ?side2 ?side3 ?side4 A10.out).mono ?_); (case side1 => exact cU (Kd.C_below HR1_0.out HB.out)); (case side2 => exact HC1_0.out); (case side3 => exact cU (Kd.C_below HR1_1.out HB.out)); (case side4 => exact HC1_1.out); rintro e w18 ⟨rfl, hb⟩; refine ⟨_, rfl, ?_⟩; replace BK272 := Aside0.mk (blk_below (g := gb272) (o := .cells #[.slice A0_0 l0_0.length c0_0, .slice A0_1 l0_1.length c0_1] 24 (0, 0)) (kU BK272.out) hb); replace BK273 := Aside0.mk (blk_below (g := gb273) (o := .cells #[.slice A1_0 l1_0.length c1_0, .slice A1_1 l1_1.length c1_1] 24 (0, 0)) (kU BK273.out) hb); replace HB := Aside0.mk (below_step (bS2 HB.out GE272.out GE273.out) hb); (try clear hb); (try clear hb2); (try clear hk); (try clear hi)))
   go_ret
   exact ⟨by first | rfl | (simp [errW_none, errW_some] <;> rfl) | (simp [*, errW_none, errW_some] <;> rfl), by exact bS2 HB.out GE272.out GE273.out⟩
  ·
   rw [if_neg c11] at H
   have c11b0 : decide (t275 < 0) = false := decide_eq_false c11
   clear c11
   replace H := Option.bind_eq_some_iff.mp H
   obtain ⟨⟨t276, t279⟩, A190, H⟩ := H
   replace H : ((laws_toArray.f k l1_0 l1_1).bind fun bt282 => ((spec_Copy.f k t276 t279 bt282.1 bt282.2).bind fun bt288 => ((laws_toArray.f k l0_0 l0_1).bind fun bt296 => ((laws_toArray.f k l1_0 l1_1).bind fun bt303 => ((impl_Copy.f k bt296.1 bt296.2 bt303.1 bt303.2).bind fun bt310 => ((laws_eqArray.f k bt310.1 bt310.2.1 bt288.1 bt288.2.1).bind fun t318 => (if t318 = true then (laws_FnExactCopy.j0 k bt288.2.2 bt310.2.2 (bt310.2.2 != bt288.2.2) l0_0 l0_1 l1_0 l1_1 bt288.1 bt288.2.1 bt296.1 bt296.2 bt303.1 bt303.2 bt310.1 bt310.2.1) else (laws_FnExactCopy.j0 k bt288.2.2 bt310.2.2 true l0_0 l0_1 l1_0 l1_1 bt288.1 bt288.2.1 bt296.1 bt296.2 bt303.1 bt303.2 bt310.1 bt310.2.1)))))))) = some r := H
   have A19 := Aside0.mk A190
   clear A190
   replace H := Option.bind_eq_some_iff.mp H
   obtain ⟨⟨t282, t285⟩, A200, H⟩ := H
   replace H : ((spec_Copy.f k t276 t279 t282 t285).bind fun bt288 => ((laws_toArray.f k l0_0 l0_1).bind fun bt296 => ((laws_toArray.f k l1_0 l1_1).bind fun bt303 => ((impl_Copy.f k bt296.1 bt296.2 bt303.1 bt303.2).bind fun bt310 => ((laws_eqArray.f k bt310.1 bt310.2.1 bt288.1 bt288.2.1).bind fun t318 => (if t318 = true then (laws_FnExactCopy.j0 k bt288.2.2 bt310.2.2 (bt310.2.2 != bt288.2.2) l0_0 l0_1 l1_0 l1_1 bt288.1 bt288.2.1 bt296.1 bt296.2 bt303.1 bt303.2 bt310.1 bt310.2.1) else (laws_FnExactCopy.j0 k bt288.2.2 bt310.2.2 true l0_0 l0_1 l1_0 l1_1 bt288.1 bt288.2.1 bt296.1 bt296.2 bt303.1 bt303.2 bt310.1 bt310.2.1))))))) = some r := H
   have A20 := Aside0.mk A200
   clear A200
   replace H := Option.bind_eq_some_iff.mp H
   obtain ⟨⟨t288, t291, t294⟩, A210, H⟩ := H
   replace H : ((laws_toArray.f k l0_0 l0_1).bind fun bt296 => ((laws_toArray.f k l1_0 l1_1).bind fun bt303 => ((impl_Copy.f k bt296.1 bt296.2 bt303.1 bt303.2).bind fun bt310 => ((laws_eqArray.f k bt310.1 bt310.2.1 t288 t291).bind fun t318 => (if t318 = true then (laws_FnExactCopy.j0 k t294 bt310.2.2 (bt310.2.2 != t294) l0_0 l0_1 l1_0 l1_1 t288 t291 bt296.1 bt296.2 bt303.1 bt303.2 bt310.1 bt310.2.1) else (laws_FnExactCopy.j0 k t294 bt310.2.2 true l0_0 l0_1 l1_0 l1_1 t288 t291 bt296.1 bt296.2 bt303.1 bt303.2 bt310.1 bt310.2.1)))))) = some r := H
   have A21 := Aside0.mk A210
   clear A210
   replace H := Option.bind_eq_some_iff.mp H
   obtain ⟨⟨t296, t299⟩, A220, H⟩ := H
   replace H : ((laws_toArray.f k l1_0 l1_1).bind fun bt303 => ((impl_Copy.f k t296 t299 bt303.1 bt303.2).bind fun bt310 => ((laws_eqArray.f k bt310.1 bt310.2.1 t288 t291).bind fun t318 => (if t318 = true then (laws_FnExactCopy.j0 k t294 bt310.2.2 (bt310.2.2 != t294) l0_0 l0_1 l1_0 l1_1 t288 t291 t296 t299 bt303.1 bt303.2 bt310.1 bt310.2.1) else (laws_FnExactCopy.j0 k t294 bt310.2.2 true l0_0 l0_1 l1_0 l1_1 t288 t291 t296 t299 bt303.1 bt303.2 bt310.1 bt310.2.1))))) = some r := H
   have A22 := Aside0.mk A220
   clear A220
   replace H := Option.bind_eq_some_iff.mp H
   obtain ⟨⟨t303, t306⟩, A230, H⟩ := H
   replace H : ((impl_Copy.f k t296 t299 t303 t306).bind fun bt310 => ((laws_eqArray.f k bt310.1 bt310.2.1 t288 t291).bind fun t318 => (if t318 = true then (laws_FnExactCopy.j0 k t294 bt310.2.2 (bt310.2.2 != t294) l0_0 l0_1 l1_0 l1_1 t288 t291 t296 t299 t303 t306 bt310.1 bt310.2.1) else (laws_FnExactCopy.j0 k t294 bt310.2.2 true l0_0 l0_1 l1_0 l1_1 t288 t291 t296 t299 t303 t306 bt310.1 bt310.2.1)))) = some r := H
   have A23 := Aside0.mk A230
   clear A230
   replace H := Option.bind_eq_some_iff.mp H
   obtain ⟨⟨t310, t313, t316⟩, A240, H⟩ := H
   replace H : ((laws_eqArray.f k t310 t313 t288 t291).bind fun t318 => (if t318 = true then (laws_FnExactCopy.j0 k t294 t316 (t316 != t294) l0_0 l0_1 l1_0 l1_1 t288 t291 t296 t299 t303 t306 t310 t313) else (laws_FnExactCopy.j0 k t294 t316 true l0_0 l0_1 l1_0 l1_1 t288 t291 t296 t299 t303 t306 t310 t313))) = some r := H
   have A24 := Aside0.mk A240
   clear A240
   have HC25 := Aside0.mk H
   clear H
   go_enter Try.func9, Try.ntmps9
   try go_wp2_with (first | ((with_reducible refine gate_dst (N := 2) rfl ?_); refine box_event ?hg (N := 2) ?hd (cs := #[.slice A0_0 l0_0.length c0_0, .slice A0_1 l0_1.length c0_1]) (t := 24) ?hr ?_; (case hd => rfl); (case hg => rfl); (case hr => first | (go_simp; done) | (go_simp; rfl)); intro gb272 hg w26 hbox hb; have BK272 := Aside0.mk (hbox); have GW272 := Aside0.mk ((by rw [hg]; exact (below_size (bU HB.out)) : w.heap.size ≤ gb272)); have GE272 := Aside0.mk ((by rw [hg]; exact (below_size (bU HB.out)) : w.heap.size ≤ gb272)); replace HB := Aside0.mk (below_step (bU HB.out) hb); clear hb hbox hg) | ((with_reducible refine gate_dst (N := 3) rfl ?_); refine box_event ?hg (N := 3) ?hd (cs := #[.slice A1_0 l1_0.length c1_0, .slice A1_1 l1_1.length c1_1]) (t := 24) ?hr ?_; (case hd => rfl); (case hg => rfl); (case hr => first | (go_simp; done) | (go_simp; rfl)); intro gb273 hg w27 hbox hb; have BK273 := Aside0.mk (hbox); have GW273 := Aside0.mk ((by rw [hg]; exact (below_size (bS1 HB.out GE272.out)) : w.heap.size ≤ gb273)); have GE273 := Aside0.mk ((by rw [hg]; exact (below_size (bS1 HB.out GE272.out)) : w.heap.size ≤ gb273)); replace HB := Aside0.mk (below_step (bS1 HB.out GE272.out) hb); have NB272_273 := Aside0.mk ((by rw [hg]; exact Nat.ne_of_lt (blk_lt (g := gb272) (o := .cells #[.slice A0_0 l0_0.length c0_0, .slice A0_1 l0_1.length c0_1] 24 (0, 0)) (kU BK272.out)) : gb272 ≠ gb273)); have NB273_272 := Aside0.mk ((by rw [hg]; exact Nat.ne_of_gt (blk_lt (g := gb272) (o := .cells #[.slice A0_0 l0_0.length c0_0, .slice A0_1 l0_1.length c0_1] 24 (0, 0)) (kU BK272.out)) : gb273 ≠ gb272)); replace BK272 := Aside0.mk (blk_below (g := gb272) (o := .cells #[.slice A0_0 l0_0.length c0_0, .slice A0_1 l0_1.length c0_1] 24 (0, 0)) (kU BK272.out) hb); clear hb hbox hg; have hnb28 := NB272_273.out; have hnc28 := NB273_272.out; have hcz29_0 : w27.cell? ⟨gb272, 0, none⟩ = some (.slice A0_0 l0_0.length c0_0) := (blk_cell BK272.out 0).trans rfl; have hcz29_1 : w27.cell? ⟨gb272, 1, none⟩ = some (.slice A0_1 l0_1.length c0_1) := (blk_cell BK272.out 1).trans rfl; have hfz29_0 := blk_frozen BK272.out 0; have hfz29_1 := blk_frozen BK272.out 1) | ((with_reducible refine gate_callee (f := 15) rfl ?_); refine goesL_ (some 19) rfl rfl Try.func15 (by kernel_rfl) rfl #[.agg #[.slice A0_0 l0_0.length c0_0, .slice A0_1 l0_1.length c0_1], .int .i64 1048576] rfl (by (try simp only [List.map_toArray, List.map_cons, List.map_nil]); first | done | rfl | (simp only [List.length_drop, List.length_take]; rfl)) ?_; (with_reducible refine (laws_szArray.calls _ _ l0_0 _ _ l0_1 1048576 t274 _ ?side1 ?side2 ?side3 ?side4 A3.out).mono ?_); (case side1 => exact cU (Kd.C_below HR0_0.out HB.out)); (case side2 => exact HC0_0.out); (case side3 => exact cU (Kd.C_below HR0_1.out HB.out)); (case side4 => exact HC0_1.out); rintro e w30 ⟨rfl, hb⟩; refine ⟨_, rfl, ?_⟩; replace BK272 := Aside0.mk (blk_below (g := gb272) (o := .cells #[.slice A0_0 l0_0.length c0_0, .slice A0_1 l0_1.length c0_1] 24 (0, 0)) (kU BK272.out) hb); replace BK273 := Aside0.mk (blk_below (g := gb273) (o := .cells #[.slice A1_0 l1_0.length c1_0, .slice A1_1 l1_1.length c1_1] 24 (0, 0)) (kU BK273.out) hb); replace HB := Aside0.mk (below_step (bS2 HB.out GE272.out GE273.out) hb); (try clear hb); (try clear hb2); (try clear hk); (try clear hi); have hcz31_0 : w30.cell? ⟨gb273, 0, none⟩ = some (.slice A1_0 l1_0.length c1_0) := (blk_cell BK273.out 0).trans rfl; have hcz31_1 : w30.cell? ⟨gb273, 1, none⟩ = some (.slice A1_1 l1_1.length c1_1) := (blk_cell BK273.out 1).trans rfl; have hfz31_0 := blk_frozen BK273.out 0; have hfz31_1 := blk_frozen BK273.out 1) | ((with_reducible refine gate_callee (f := 15) rfl ?_); refine goesL_ (some 24) rfl rfl Try.func15 (by kernel_rfl) rfl #[.agg #[.slice A1_0 l1_0.length c1_0, .slice A1_1 l1_1.length c1_1], .int .i64 t274] rfl (by (try simp only [List.map_toArray, List.map_cons, List.map_nil]); first | done | rfl | (simp only [List.length_drop, List.length_take]; rfl)) ?_; (with_reducible refine (laws_szArray.calls _ _ l1_0 _ _ l1_1 t274 t275 _ ?side1 ?side2 ?side3 ?side4 A10.out).mono ?_); (case side1 => exact cU (Kd.C_below HR1_0.out HB.out)); (case side2 => exact HC1_0.out); (case side3 => exact cU (Kd.C_below HR1_1.out HB.out)); (case side4 => exact HC1_1.out); rintro e w32 ⟨rfl, hb⟩; refine ⟨_, rfl, ?_⟩; replace BK272 := Aside0.mk (blk_below (g := gb272) (o := .cells #[.slice A0_0 l0_0.length c0_0, .slice A0_1 l0_1.length c0_1] 24 (0, 0)) (kU BK272.out) hb); replace BK273 := Aside0.mk (blk_below (g := gb273) (o := .cells #[.slice A1_0 l1_0.length c1_0, .slice A1_1 l1_1.length c1_1] 24 (0, 0)) (kU BK273.out) hb); replace HB := Aside0.mk (below_step (bS2 HB.out GE272.out GE273.out) hb); (try clear hb); (try clear hb2); (try clear hk); (try clear hi)))
   replace BK272 := Aside0.mk (blk_drew BK272.out)
   replace BK273 := Aside0.mk (blk_drew BK273.out)
   replace HB := Aside0.mk (below_drew1 HB.out)
   refine start_ (n := 11) (S := fun w' => w'.cell? ⟨gb272, 0, none⟩ = some (.slice A0_0 l0_0.length c0_0) ∧ w'.cell? ⟨gb272, 1, none⟩ = some (.slice A0_1 l0_1.length c0_1) ∧ w'.cell? ⟨gb273, 0, none⟩ = some (.slice A1_0 l1_0.length c1_0) ∧ w'.cell? ⟨gb273, 1, none⟩ = some (.slice A1_1 l1_1.length c1_1)) (ds := []) #[false, false, false, false, false, false, false, false, false, false, false] (by kernel_rfl) rfl rfl ⟨(blk_cell BK272.out 0).trans rfl, (blk_cell BK272.out 1).trans rfl, (blk_cell BK273.out 0).trans rfl, (blk_cell BK273.out 1).trans rfl⟩ (fun hHeld => ?_); refine with_tabW laws_FnExactCopy.tab8 laws_FnExactCopy.bits8 (fun HT_ HW_ => ?_)
   generalize w32.drew = w33 at BK272 BK273 HB hHeld ⊢
   refine take_ (i := 0) (N := some 28) (v := ?_) (a' := ?_) #[true, false, false, false, false, false, false, false, false, false, false] rfl rfl (take_ofW HT_.out HW_.out (by kernel_rfl)) (fun _ _ _ h => h) (Or.inl ⟨by rfl, ?_⟩) hHeld ?_ ?_
   rotate_left
   ·
    rintro w' ⟨s0, s1, s2, s3⟩
    go_simp
    with_reducible rfl
   rotate_left
   ·
    simp only [Act.put, List.setIfInBounds_toArray, List.set_cons_zero, List.set_cons_succ, i64_w, i32_w]
    rfl
   refine take_ (i := 2) (N := some 30) (v := ?_) (a' := ?_) #[true, false, true, false, false, false, false, false, false, false, false] rfl rfl (take_ofW HT_.out HW_.out (by kernel_rfl)) (fun _ _ _ h => h) (Or.inl ⟨by rfl, ?_⟩) hHeld ?_ ?_
   rotate_left
   ·
    rintro w' ⟨s0, s1, s2, s3⟩
    go_simp
    with_reducible rfl
   rotate_left
   ·
    simp only [Act.put, List.setIfInBounds_toArray, List.set_cons_zero, List.set_cons_succ, i64_w, i32_w]
    rfl
   refine join_ (σ := Value × Value × Value × Value × Value × Value × Nat) 2 #[true, true, true, true, true, true, true, true, true, false, false] (fun s_ => [(29, .agg #[s_.1, s_.2.1]), (31, .agg #[s_.2.2.1, s_.2.2.2.1]), (32, .tuple #[.agg #[s_.2.2.2.2.1, s_.2.2.2.2.2.1], .int .i64 t294]), (6, .pointer (some ⟨s_.2.2.2.2.2.2, 0, none⟩)), (27, .tuple #[.agg #[s_.2.2.2.2.1, s_.2.2.2.2.2.1], .int .i64 t294]), (33, .agg #[s_.2.2.2.2.1, s_.2.2.2.2.2.1]), (34, .int .i64 t294)]) (fun s_ w' => (w'.cell? ⟨gb272, 0, none⟩ = some (.slice A0_0 l0_0.length c0_0) ∧ w'.cell? ⟨gb272, 1, none⟩ = some (.slice A0_1 l0_1.length c0_1) ∧ w'.cell? ⟨gb273, 0, none⟩ = some (.slice A1_0 l1_0.length c1_0) ∧ w'.cell? ⟨gb273, 1, none⟩ = some (.slice A1_1 l1_1.length c1_1)) ∧ (Kd.R (Kd.int .i64) 3 w' w.heap.size (fun k_ => some k_ ≠ (s_.2.1 : Value).ownBlock ∧ some k_ ≠ (s_.2.2.1 : Value).ownBlock ∧ some k_ ≠ (s_.2.2.2.1 : Value).ownBlock ∧ some k_ ≠ (s_.2.2.2.2.1 : Value).ownBlock ∧ some k_ ≠ (s_.2.2.2.2.2.1 : Value).ownBlock) s_.1 t276) ∧ (Kd.R (Kd.int .i64) 3 w' w.heap.size (fun k_ => some k_ ≠ (s_.1 : Value).ownBlock ∧ some k_ ≠ (s_.2.2.1 : Value).ownBlock ∧ some k_ ≠ (s_.2.2.2.1 : Value).ownBlock ∧ some k_ ≠ (s_.2.2.2.2.1 : Value).ownBlock ∧ some k_ ≠ (s_.2.2.2.2.2.1 : Value).ownBlock) s_.2.1 t279) ∧ (Kd.R (Kd.int .i64) 3 w' w.heap.size (fun k_ => some k_ ≠ (s_.1 : Value).ownBlock ∧ some k_ ≠ (s_.2.1 : Value).ownBlock ∧ some k_ ≠ (s_.2.2.2.1 : Value).ownBlock ∧ some k_ ≠ (s_.2.2.2.2.1 : Value).ownBlock ∧ some k_ ≠ (s_.2.2.2.2.2.1 : Value).ownBlock) s_.2.2.1 t282) ∧ (Kd.R (Kd.int .i64) 3 w' w.heap.size (fun k_ => some k_ ≠ (s_.1 : Value).ownBlock ∧ some k_ ≠ (s_.2.1 : Value).ownBlock ∧ some k_ ≠ (s_.2.2.1 : Value).ownBlock ∧ some k_ ≠ (s_.2.2.2.2.1 : Value).ownBlock ∧ some k_ ≠ (s_.2.2.2.2.2.1 : Value).ownBlock) s_.2.2.2.1 t285) ∧ (Kd.R (Kd.int .i64) 3 w' w.heap.size (fun k_ => some k_ ≠ (s_.1 : Value).ownBlock ∧ some k_ ≠ (s_.2.1 : Value).ownBlock ∧ some k_ ≠ (s_.2.2.1 : Value).ownBlock ∧ some k_ ≠ (s_.2.2.2.1 : Value).ownBlock ∧ some k_ ≠ (s_.2.2.2.2.2.1 : Value).ownBlock) s_.2.2.2.2.1 t288) ∧ (Kd.R (Kd.int .i64) 3 w' w.heap.size (fun k_ => some k_ ≠ (s_.1 : Value).ownBlock ∧ some k_ ≠ (s_.2.1 : Value).ownBlock ∧ some k_ ≠ (s_.2.2.1 : Value).ownBlock ∧ some k_ ≠ (s_.2.2.2.1 : Value).ownBlock ∧ some k_ ≠ (s_.2.2.2.2.1 : Value).ownBlock) s_.2.2.2.2.2.1 t291) ∧ (w'.heap[gb272]? = some (.cells #[.slice A0_0 l0_0.length c0_0, .slice A0_1 l0_1.length c0_1] 24 (0, 0))) ∧ (w'.heap[gb273]? = some (.cells #[.slice A1_0 l1_0.length c1_0, .slice A1_1 l1_1.length c1_1] 24 (0, 0))) ∧ (w'.heap[s_.2.2.2.2.2.2]? = some (.cells #[.slice none 0 0, .slice none 0 0] 26 (0, 0))) ∧ (w.heap.size ≤ s_.2.2.2.2.2.2) ∧ (w.heap.size ≤ s_.2.2.2.2.2.2) ∧ (gb272 ≠ s_.2.2.2.2.2.2) ∧ (s_.2.2.2.2.2.2 ≠ gb272) ∧ (gb273 ≠ s_.2.2.2.2.2.2) ∧ (s_.2.2.2.2.2.2 ≠ gb273) ∧ (Below w.heap.size w w')) ?_ ?_
   rotate_left
   ·
    intro hCont
    refine two_ (i := 1) (j := 8) (Ni := some 29) (Nj := some 6) #[true, true, true, false, false, false, false, false, false, false, false] #[true, false, true, false, false, false, false, false, true, false, false] rfl rfl rfl rfl (two_of HT_.out (by kernel_rfl)) (by decide) (by decide) (fun K hK => ?_) (fun K hK => ?_)
    ·
     skip
     refine goes_ Try.func17 (by kernel_rfl) rfl #[.agg #[.slice A0_0 l0_0.length c0_0, .slice A0_1 l0_1.length c0_1]] (by rfl) rfl rfl (by (try simp only [List.map_toArray, List.map_cons, List.map_nil]); first | done | rfl | (simp only [List.length_drop, List.length_take]; rfl)) ?_
     with_reducible refine (laws_toArray.calls k _ _ l0_0 _ _ l0_1 t276 t279 _ ?side1 ?side2 ?side3 ?side4 A19.out).mono ?_
     (case side1 => exact cU (Kd.C_below HR0_0.out HB.out))
     (case side2 => exact HC0_0.out)
     (case side3 => exact cU (Kd.C_below HR0_1.out HB.out))
     (case side4 => exact HC0_1.out)
     rintro e w34 ⟨v277, v280, rfl, ho0, ho1, hb⟩
     refine ⟨_, rfl, ?_⟩
     have HO278 := Aside0.mk (Kd.R_lower ho0 (below_size (bS2 HB.out GE272.out GE273.out)))
     have HO281 := Aside0.mk (Kd.R_lower ho1 (below_size (bS2 HB.out GE272.out GE273.out)))
     replace BK272 := Aside0.mk (blk_below (g := gb272) (o := .cells #[.slice A0_0 l0_0.length c0_0, .slice A0_1 l0_1.length c0_1] 24 (0, 0)) (kU BK272.out) hb)
     replace BK273 := Aside0.mk (blk_below (g := gb273) (o := .cells #[.slice A1_0 l1_0.length c1_0, .slice A1_1 l1_1.length c1_1] 24 (0, 0)) (kU BK273.out) hb)
     replace HB := Aside0.mk (below_step (bS2 HB.out GE272.out GE273.out) hb)
     (try clear hb)
     (try clear hb2)
     (try clear hk)
     (try clear hi)
     (try clear ho0)
     (try clear ho1)
     refine hK.out _ _ ⟨(blk_cell BK272.out 0).trans rfl, (blk_cell BK272.out 1).trans rfl, (blk_cell BK273.out 0).trans rfl, (blk_cell BK273.out 1).trans rfl⟩ (fun hHeld => ?_)
     clear hK K
     refine norm_ (a' := ?_) ?_ ?_
     rotate_left
     ·
      show Act.put _ (some 29) _ = _
      simp only [Act.put, List.setIfInBounds_toArray, List.set_cons_zero, List.set_cons_succ, i64_w, i32_w]
      rfl
     refine two_ (i := 3) (j := 8) (Ni := some 31) (Nj := some 6) #[true, true, true, true, false, false, false, false, false, false, false] #[true, true, true, false, false, false, false, false, true, false, false] rfl rfl rfl rfl (two_of HT_.out (by kernel_rfl)) (by decide) (by decide) (fun K hK => ?_) (fun K hK => ?_)
     ·
      skip
      refine goes_ Try.func17 (by kernel_rfl) rfl #[.agg #[.slice A1_0 l1_0.length c1_0, .slice A1_1 l1_1.length c1_1]] (by rfl) rfl rfl (by (try simp only [List.map_toArray, List.map_cons, List.map_nil]); first | done | rfl | (simp only [List.length_drop, List.length_take]; rfl)) ?_
      with_reducible refine (laws_toArray.calls k _ _ l1_0 _ _ l1_1 t282 t285 _ ?side1 ?side2 ?side3 ?side4 A20.out).mono ?_
      (case side1 => exact cU (Kd.C_below HR1_0.out HB.out))
      (case side2 => exact HC1_0.out)
      (case side3 => exact cU (Kd.C_below HR1_1.out HB.out))
      (case side4 => exact HC1_1.out)
      rintro e w35 ⟨v283, v286, rfl, ho0, ho1, hb⟩
      refine ⟨_, rfl, ?_⟩
      have HO284 := Aside0.mk (Kd.R_lower (Kd.R_new' (Kd.R_new' ho0 (Kd.R_lt (RU HO278.out))) (Kd.R_lt (RU HO281.out))) (below_size (bS2 HB.out GE272.out GE273.out)))
      have HO287 := Aside0.mk (Kd.R_lower (Kd.R_new' (Kd.R_new' ho1 (Kd.R_lt (RU HO278.out))) (Kd.R_lt (RU HO281.out))) (below_size (bS2 HB.out GE272.out GE273.out)))
      replace HO278 := Aside0.mk (Kd.R_mono (Kd.R_told (Kd.R_told (Kd.R_old (RU HO278.out) hb) (Kd.R_base ho0)) (Kd.R_base ho1)) (fun _ h_ => h_.1))
      replace HO281 := Aside0.mk (Kd.R_mono (Kd.R_told (Kd.R_told (Kd.R_old (RU HO281.out) hb) (Kd.R_base ho0)) (Kd.R_base ho1)) (fun _ h_ => h_.1))
      replace BK272 := Aside0.mk (blk_below (g := gb272) (o := .cells #[.slice A0_0 l0_0.length c0_0, .slice A0_1 l0_1.length c0_1] 24 (0, 0)) (kU BK272.out) hb)
      replace BK273 := Aside0.mk (blk_below (g := gb273) (o := .cells #[.slice A1_0 l1_0.length c1_0, .slice A1_1 l1_1.length c1_1] 24 (0, 0)) (kU BK273.out) hb)
      replace HB := Aside0.mk (below_step (bS2 HB.out GE272.out GE273.out) hb)
      (try clear hb)
      (try clear hb2)
      (try clear hk)
      (try clear hi)
      (try clear ho0)
      (try clear ho1)
      obtain ⟨Ao36, co36, eo36⟩ := Kd.R_slice HO278.out
      (first | subst eo36 | (injection eo36 with f1_ f2_ f3_; have f4_ := f1_.symm; have f5_ := f3_.symm; clear f1_ f2_ f3_; subst f4_; subst f5_))
      obtain ⟨Ao37, co37, eo37⟩ := Kd.R_slice HO281.out
      (first | subst eo37 | (injection eo37 with f1_ f2_ f3_; have f4_ := f1_.symm; have f5_ := f3_.symm; clear f1_ f2_ f3_; subst f4_; subst f5_))
      obtain ⟨Ao38, co38, eo38⟩ := Kd.R_slice HO284.out
      (first | subst eo38 | (injection eo38 with f1_ f2_ f3_; have f4_ := f1_.symm; have f5_ := f3_.symm; clear f1_ f2_ f3_; subst f4_; subst f5_))
      obtain ⟨Ao39, co39, eo39⟩ := Kd.R_slice HO287.out
      (first | subst eo39 | (injection eo39 with f1_ f2_ f3_; have f4_ := f1_.symm; have f5_ := f3_.symm; clear f1_ f2_ f3_; subst f4_; subst f5_))
      refine hK.out _ _ ⟨(blk_cell BK272.out 0).trans rfl, (blk_cell BK272.out 1).trans rfl, (blk_cell BK273.out 0).trans rfl, (blk_cell BK273.out 1).trans rfl⟩ (fun hHeld => ?_)
      clear hK K
      refine norm_ (a' := ?_) ?_ ?_
      rotate_left
      ·
       show Act.put _ (some 31) _ = _
       simp only [Act.put, List.setIfInBounds_toArray, List.set_cons_zero, List.set_cons_succ, i64_w, i32_w]
       rfl
      refine two_ (i := 4) (j := 8) (Ni := some 32) (Nj := some 6) #[true, true, true, true, true, false, false, false, false, false, false] #[true, true, true, true, false, false, false, false, true, false, false] rfl rfl rfl rfl (two_of HT_.out (by kernel_rfl)) (by decide) (by decide) (fun K hK => ?_) (fun K hK => ?_)
      ·
       skip
       refine goes_ Try.func43 (by kernel_rfl) rfl #[.agg #[.slice Ao36 t276.length co36, .slice Ao37 t279.length co37], .agg #[.slice Ao38 t282.length co38, .slice Ao39 t285.length co39]] (by rfl) rfl rfl (by (try simp only [List.map_toArray, List.map_cons, List.map_nil]); first | done | rfl | (simp only [List.length_drop, List.length_take]; rfl)) ?_
       with_reducible refine (spec_Copy.calls k _ _ t276 _ _ t279 _ _ t282 _ _ t285 t288 t291 t294 _ ?side1 ?side2 ?side3 ?side4 ?side5 ?side6 ?side7 ?side8 A21.out).mono ?_
       (case side1 => exact cU (Kd.R_reads' HO278.out).2.2)
       (case side2 => exact (Kd.R_reads' HO278.out).2.1)
       (case side3 => exact cU (Kd.R_reads' HO281.out).2.2)
       (case side4 => exact (Kd.R_reads' HO281.out).2.1)
       (case side5 => exact cU (Kd.R_reads' HO284.out).2.2)
       (case side6 => exact (Kd.R_reads' HO284.out).2.1)
       (case side7 => exact cU (Kd.R_reads' HO287.out).2.2)
       (case side8 => exact (Kd.R_reads' HO287.out).2.1)
       rintro e w40 ⟨v289, v292, rfl, ho0, ho1, hb⟩
       refine ⟨_, rfl, ?_⟩
       have HO290 := Aside0.mk (Kd.R_lower (Kd.R_new' (Kd.R_new' (Kd.R_new' (Kd.R_new' ho0 (Kd.R_lt (RU HO278.out))) (Kd.R_lt (RU HO281.out))) (Kd.R_lt (RU HO284.out))) (Kd.R_lt (RU HO287.out))) (below_size (bS2 HB.out GE272.out GE273.out)))
       have HO293 := Aside0.mk (Kd.R_lower (Kd.R_new' (Kd.R_new' (Kd.R_new' (Kd.R_new' ho1 (Kd.R_lt (RU HO278.out))) (Kd.R_lt (RU HO281.out))) (Kd.R_lt (RU HO284.out))) (Kd.R_lt (RU HO287.out))) (below_size (bS2 HB.out GE272.out GE273.out)))
       replace HO278 := Aside0.mk (Kd.R_mono (Kd.R_told (Kd.R_told (Kd.R_old (RU HO278.out) hb) (Kd.R_base ho0)) (Kd.R_base ho1)) (fun _ h_ => h_.1))
       replace HO281 := Aside0.mk (Kd.R_mono (Kd.R_told (Kd.R_told (Kd.R_old (RU HO281.out) hb) (Kd.R_base ho0)) (Kd.R_base ho1)) (fun _ h_ => h_.1))
       replace HO284 := Aside0.mk (Kd.R_mono (Kd.R_told (Kd.R_told (Kd.R_old (RU HO284.out) hb) (Kd.R_base ho0)) (Kd.R_base ho1)) (fun _ h_ => h_.1))
       replace HO287 := Aside0.mk (Kd.R_mono (Kd.R_told (Kd.R_told (Kd.R_old (RU HO287.out) hb) (Kd.R_base ho0)) (Kd.R_base ho1)) (fun _ h_ => h_.1))
       replace BK272 := Aside0.mk (blk_below (g := gb272) (o := .cells #[.slice A0_0 l0_0.length c0_0, .slice A0_1 l0_1.length c0_1] 24 (0, 0)) (kU BK272.out) hb)
       replace BK273 := Aside0.mk (blk_below (g := gb273) (o := .cells #[.slice A1_0 l1_0.length c1_0, .slice A1_1 l1_1.length c1_1] 24 (0, 0)) (kU BK273.out) hb)
       replace HB := Aside0.mk (below_step (bS2 HB.out GE272.out GE273.out) hb)
       (try clear hb)
       (try clear hb2)
       (try clear hk)
       (try clear hi)
       (try clear ho0)
       (try clear ho1)
       refine hK.out _ _ ⟨(blk_cell BK272.out 0).trans rfl, (blk_cell BK272.out 1).trans rfl, (blk_cell BK273.out 0).trans rfl, (blk_cell BK273.out 1).trans rfl⟩ (fun hHeld => ?_)
       clear hK K
       refine norm_ (a' := ?_) ?_ ?_
       rotate_left
       ·
        show Act.put _ (some 32) _ = _
        simp only [Act.put, List.setIfInBounds_toArray, List.set_cons_zero, List.set_cons_succ, i64_w, i32_w]
        rfl
       refine pure_ (i := 5) (N := some 27) (v := ?_) (a' := ?_) #[true, true, true, true, true, true, false, false, false, false, false] rfl rfl (any_of HT_.out (by kernel_rfl)) (fun _ _ _ h => h) (Or.inl ⟨by rfl, ?_⟩) ?_ ?_
       rotate_left
       ·
        intro w'
        go_simp
        with_reducible rfl
       rotate_left
       ·
        simp only [Act.put, List.setIfInBounds_toArray, List.set_cons_zero, List.set_cons_succ, i64_w, i32_w]
        rfl
       refine pure_ (i := 6) (N := some 33) (v := ?_) (a' := ?_) #[true, true, true, true, true, true, true, false, false, false, false] rfl rfl (any_of HT_.out (by kernel_rfl)) (fun _ _ _ h => h) (Or.inl ⟨by rfl, ?_⟩) ?_ ?_
       rotate_left
       ·
        intro w'
        go_simp
        with_reducible rfl
       rotate_left
       ·
        simp only [Act.put, List.setIfInBounds_toArray, List.set_cons_zero, List.set_cons_succ, i64_w, i32_w]
        rfl
       refine pure_ (i := 7) (N := some 34) (v := ?_) (a' := ?_) #[true, true, true, true, true, true, true, true, false, false, false] rfl rfl (any_of HT_.out (by kernel_rfl)) (fun _ _ _ h => h) (Or.inl ⟨by rfl, ?_⟩) ?_ ?_
       rotate_left
       ·
        intro w'
        go_simp
        with_reducible rfl
       rotate_left
       ·
        simp only [Act.put, List.setIfInBounds_toArray, List.set_cons_zero, List.set_cons_succ, i64_w, i32_w]
        rfl
       refine one_ (i := 8) (N := some 6) #[true, true, true, true, true, true, true, true, true, false, false] rfl rfl (one_of HT_.out (by kernel_rfl)) (by decide) (fun K hK => ?_)
       refine box_step ?hg (N := 6) ?hd (cs := #[.slice none 0 0, .slice none 0 0]) (t := 26) ?hr ?_; (case hd => rfl); (case hg => rfl); (case hr => first | (go_simp; done) | (go_simp; rfl))
       intro gb295 hg w41 hbox hb
       replace HO278 := Aside0.mk (Kd.R_below (RU HO278.out) hb)
       replace HO281 := Aside0.mk (Kd.R_below (RU HO281.out) hb)
       replace HO284 := Aside0.mk (Kd.R_below (RU HO284.out) hb)
       replace HO287 := Aside0.mk (Kd.R_below (RU HO287.out) hb)
       replace HO290 := Aside0.mk (Kd.R_below (RU HO290.out) hb)
       replace HO293 := Aside0.mk (Kd.R_below (RU HO293.out) hb)
       have BK295 := Aside0.mk (hbox)
       have GW295 := Aside0.mk ((by rw [hg]; exact (below_size (bS2 HB.out GE272.out GE273.out)) : w.heap.size ≤ gb295))
       have GE295 := Aside0.mk ((by rw [hg]; exact (below_size (bS2 HB.out GE272.out GE273.out)) : w.heap.size ≤ gb295))
       replace HB := Aside0.mk (below_step (bS2 HB.out GE272.out GE273.out) hb)
       have NB272_295 := Aside0.mk ((by rw [hg]; exact Nat.ne_of_lt (blk_lt (g := gb272) (o := .cells #[.slice A0_0 l0_0.length c0_0, .slice A0_1 l0_1.length c0_1] 24 (0, 0)) (kU BK272.out)) : gb272 ≠ gb295))
       have NB295_272 := Aside0.mk ((by rw [hg]; exact Nat.ne_of_gt (blk_lt (g := gb272) (o := .cells #[.slice A0_0 l0_0.length c0_0, .slice A0_1 l0_1.length c0_1] 24 (0, 0)) (kU BK272.out)) : gb295 ≠ gb272))
       replace BK272 := Aside0.mk (blk_below (g := gb272) (o := .cells #[.slice A0_0 l0_0.length c0_0, .slice A0_1 l0_1.length c0_1] 24 (0, 0)) (kU BK272.out) hb)
       have NB273_295 := Aside0.mk ((by rw [hg]; exact Nat.ne_of_lt (blk_lt (g := gb273) (o := .cells #[.slice A1_0 l1_0.length c1_0, .slice A1_1 l1_1.length c1_1] 24 (0, 0)) (kU BK273.out)) : gb273 ≠ gb295))
       have NB295_273 := Aside0.mk ((by rw [hg]; exact Nat.ne_of_gt (blk_lt (g := gb273) (o := .cells #[.slice A1_0 l1_0.length c1_0, .slice A1_1 l1_1.length c1_1] 24 (0, 0)) (kU BK273.out)) : gb295 ≠ gb273))
       replace BK273 := Aside0.mk (blk_below (g := gb273) (o := .cells #[.slice A1_0 l1_0.length c1_0, .slice A1_1 l1_1.length c1_1] 24 (0, 0)) (kU BK273.out) hb)
       clear hb hbox hg
       refine hK.out _ _ ⟨(blk_cell BK272.out 0).trans rfl, (blk_cell BK272.out 1).trans rfl, (blk_cell BK273.out 0).trans rfl, (blk_cell BK273.out 1).trans rfl⟩ (fun hHeld => ?_)
       clear hK K
       refine norm_ (a' := ?_) ?_ ?_
       rotate_left
       ·
        show Act.put _ (some 6) _ = _
        simp only [Act.put, List.setIfInBounds_toArray, List.set_cons_zero, List.set_cons_succ, i64_w, i32_w]
        rfl
       exact norm_ (by simp only [putAll, Act.put, List.setIfInBounds_toArray, List.set_cons_zero, List.set_cons_succ]) (hCont (.slice Ao36 t276.length co36, .slice Ao37 t279.length co37, .slice Ao38 t282.length co38, .slice Ao39 t285.length co39, v289, v292, gb295) _ ⟨hHeld, (by (with_reducible repeat (first | apply Kd.R_alloc | apply Kd.R_drewN | apply Kd.R_drew)); exact Kd.R_mono HO278.out (fun _ hk => ⟨hk.1.1.1.1, ⟨hk.1.1.1.2, ⟨hk.1.1.2, ⟨hk.1.2, hk.2⟩⟩⟩⟩)), (by (with_reducible repeat (first | apply Kd.R_alloc | apply Kd.R_drewN | apply Kd.R_drew)); exact Kd.R_mono HO281.out (fun _ hk => ⟨hk.1.1.1.1, ⟨hk.1.1.1.2, ⟨hk.1.1.2, ⟨hk.1.2, hk.2⟩⟩⟩⟩)), (by (with_reducible repeat (first | apply Kd.R_alloc | apply Kd.R_drewN | apply Kd.R_drew)); exact Kd.R_mono HO284.out (fun _ hk => ⟨hk.1.1.1.2, ⟨hk.1.1.2, ⟨hk.1.1.1.1, ⟨hk.1.2, hk.2⟩⟩⟩⟩)), (by (with_reducible repeat (first | apply Kd.R_alloc | apply Kd.R_drewN | apply Kd.R_drew)); exact Kd.R_mono HO287.out (fun _ hk => ⟨hk.1.1.1.2, ⟨hk.1.1.2, ⟨hk.1.1.1.1, ⟨hk.1.2, hk.2⟩⟩⟩⟩)), (by (with_reducible repeat (first | apply Kd.R_alloc | apply Kd.R_drewN | apply Kd.R_drew)); exact Kd.R_mono HO290.out (fun _ hk => ⟨hk.1.1.1.2, ⟨hk.1.1.2, ⟨hk.1.2, ⟨hk.2, hk.1.1.1.1⟩⟩⟩⟩)), (by (with_reducible repeat (first | apply Kd.R_alloc | apply Kd.R_drewN | apply Kd.R_drew)); exact Kd.R_mono HO293.out (fun _ hk => ⟨hk.1.1.1.2, ⟨hk.1.1.2, ⟨hk.1.2, ⟨hk.2, hk.1.1.1.1⟩⟩⟩⟩)), (kU BK272.out), (kU BK273.out), (kU BK295.out), GW295.out, GE295.out, NB272_295.out, NB295_272.out, NB273_295.out, NB295_273.out, (bS3 HB.out GE272.out GE273.out GE295.out)⟩)
      ·
       skip
       refine box_step ?hg (N := 6) ?hd (cs := #[.slice none 0 0, .slice none 0 0]) (t := 26) ?hr ?_; (case hd => rfl); (case hg => rfl); (case hr => first | (go_simp; done) | (go_simp; rfl))
       intro gb295 hg w36 hbox hb
       replace HO278 := Aside0.mk (Kd.R_below (RU HO278.out) hb)
       replace HO281 := Aside0.mk (Kd.R_below (RU HO281.out) hb)
       replace HO284 := Aside0.mk (Kd.R_below (RU HO284.out) hb)
       replace HO287 := Aside0.mk (Kd.R_below (RU HO287.out) hb)
       have BK295 := Aside0.mk (hbox)
       have GW295 := Aside0.mk ((by rw [hg]; exact (below_size (bS2 HB.out GE272.out GE273.out)) : w.heap.size ≤ gb295))
       have GE295 := Aside0.mk ((by rw [hg]; exact (below_size (bS2 HB.out GE272.out GE273.out)) : w.heap.size ≤ gb295))
       replace HB := Aside0.mk (below_step (bS2 HB.out GE272.out GE273.out) hb)
       have NB272_295 := Aside0.mk ((by rw [hg]; exact Nat.ne_of_lt (blk_lt (g := gb272) (o := .cells #[.slice A0_0 l0_0.length c0_0, .slice A0_1 l0_1.length c0_1] 24 (0, 0)) (kU BK272.out)) : gb272 ≠ gb295))
       have NB295_272 := Aside0.mk ((by rw [hg]; exact Nat.ne_of_gt (blk_lt (g := gb272) (o := .cells #[.slice A0_0 l0_0.length c0_0, .slice A0_1 l0_1.length c0_1] 24 (0, 0)) (kU BK272.out)) : gb295 ≠ gb272))
       replace BK272 := Aside0.mk (blk_below (g := gb272) (o := .cells #[.slice A0_0 l0_0.length c0_0, .slice A0_1 l0_1.length c0_1] 24 (0, 0)) (kU BK272.out) hb)
       have NB273_295 := Aside0.mk ((by rw [hg]; exact Nat.ne_of_lt (blk_lt (g := gb273) (o := .cells #[.slice A1_0 l1_0.length c1_0, .slice A1_1 l1_1.length c1_1] 24 (0, 0)) (kU BK273.out)) : gb273 ≠ gb295))
       have NB295_273 := Aside0.mk ((by rw [hg]; exact Nat.ne_of_gt (blk_lt (g := gb273) (o := .cells #[.slice A1_0 l1_0.length c1_0, .slice A1_1 l1_1.length c1_1] 24 (0, 0)) (kU BK273.out)) : gb295 ≠ gb273))
       replace BK273 := Aside0.mk (blk_below (g := gb273) (o := .cells #[.slice A1_0 l1_0.length c1_0, .slice A1_1 l1_1.length c1_1] 24 (0, 0)) (kU BK273.out) hb)
       clear hb hbox hg
       obtain ⟨Ao37, co37, eo37⟩ := Kd.R_slice HO278.out
       (first | subst eo37 | (injection eo37 with f1_ f2_ f3_; have f4_ := f1_.symm; have f5_ := f3_.symm; clear f1_ f2_ f3_; subst f4_; subst f5_))
       obtain ⟨Ao38, co38, eo38⟩ := Kd.R_slice HO281.out
       (first | subst eo38 | (injection eo38 with f1_ f2_ f3_; have f4_ := f1_.symm; have f5_ := f3_.symm; clear f1_ f2_ f3_; subst f4_; subst f5_))
       obtain ⟨Ao39, co39, eo39⟩ := Kd.R_slice HO284.out
       (first | subst eo39 | (injection eo39 with f1_ f2_ f3_; have f4_ := f1_.symm; have f5_ := f3_.symm; clear f1_ f2_ f3_; subst f4_; subst f5_))
       obtain ⟨Ao40, co40, eo40⟩ := Kd.R_slice HO287.out
       (first | subst eo40 | (injection eo40 with f1_ f2_ f3_; have f4_ := f1_.symm; have f5_ := f3_.symm; clear f1_ f2_ f3_; subst f4_; subst f5_))
       refine hK.out _ _ ⟨(blk_cell BK272.out 0).trans rfl, (blk_cell BK272.out 1).trans rfl, (blk_cell BK273.out 0).trans rfl, (blk_cell BK273.out 1).trans rfl⟩ (fun hHeld => ?_)
       clear hK K
       refine norm_ (a' := ?_) ?_ ?_
       rotate_left
       ·
        show Act.put _ (some 6) _ = _
        simp only [Act.put, List.setIfInBounds_toArray, List.set_cons_zero, List.set_cons_succ, i64_w, i32_w]
        rfl
       refine one_ (i := 4) (N := some 32) #[true, true, true, true, true, false, false, false, true, false, false] rfl rfl (one_of HT_.out (by kernel_rfl)) (by decide) (fun K hK => ?_)
       refine goes_ Try.func43 (by kernel_rfl) rfl #[.agg #[.slice Ao37 t276.length co37, .slice Ao38 t279.length co38], .agg #[.slice Ao39 t282.length co39, .slice Ao40 t285.length co40]] (by rfl) rfl rfl (by (try simp only [List.map_toArray, List.map_cons, List.map_nil]); first | done | rfl | (simp only [List.length_drop, List.length_take]; rfl)) ?_
       with_reducible refine (spec_Copy.calls k _ _ t276 _ _ t279 _ _ t282 _ _ t285 t288 t291 t294 _ ?side1 ?side2 ?side3 ?side4 ?side5 ?side6 ?side7 ?side8 A21.out).mono ?_
       (case side1 => exact cU (Kd.R_reads' HO278.out).2.2)
       (case side2 => exact (Kd.R_reads' HO278.out).2.1)
       (case side3 => exact cU (Kd.R_reads' HO281.out).2.2)
       (case side4 => exact (Kd.R_reads' HO281.out).2.1)
       (case side5 => exact cU (Kd.R_reads' HO284.out).2.2)
       (case side6 => exact (Kd.R_reads' HO284.out).2.1)
       (case side7 => exact cU (Kd.R_reads' HO287.out).2.2)
       (case side8 => exact (Kd.R_reads' HO287.out).2.1)
       rintro e w41 ⟨v289, v292, rfl, ho0, ho1, hb⟩
       refine ⟨_, rfl, ?_⟩
       have HO290 := Aside0.mk (Kd.R_lower (Kd.R_new' (Kd.R_new' (Kd.R_new' (Kd.R_new' ho0 (Kd.R_lt (RU HO278.out))) (Kd.R_lt (RU HO281.out))) (Kd.R_lt (RU HO284.out))) (Kd.R_lt (RU HO287.out))) (below_size (bS3 HB.out GE272.out GE273.out GE295.out)))
       have HO293 := Aside0.mk (Kd.R_lower (Kd.R_new' (Kd.R_new' (Kd.R_new' (Kd.R_new' ho1 (Kd.R_lt (RU HO278.out))) (Kd.R_lt (RU HO281.out))) (Kd.R_lt (RU HO284.out))) (Kd.R_lt (RU HO287.out))) (below_size (bS3 HB.out GE272.out GE273.out GE295.out)))
       replace HO278 := Aside0.mk (Kd.R_mono (Kd.R_told (Kd.R_told (Kd.R_old (RU HO278.out) hb) (Kd.R_base ho0)) (Kd.R_base ho1)) (fun _ h_ => h_.1))
       replace HO281 := Aside0.mk (Kd.R_mono (Kd.R_told (Kd.R_told (Kd.R_old (RU HO281.out) hb) (Kd.R_base ho0)) (Kd.R_base ho1)) (fun _ h_ => h_.1))
       replace HO284 := Aside0.mk (Kd.R_mono (Kd.R_told (Kd.R_told (Kd.R_old (RU HO284.out) hb) (Kd.R_base ho0)) (Kd.R_base ho1)) (fun _ h_ => h_.1))
       replace HO287 := Aside0.mk (Kd.R_mono (Kd.R_told (Kd.R_told (Kd.R_old (RU HO287.out) hb) (Kd.R_base ho0)) (Kd.R_base ho1)) (fun _ h_ => h_.1))
       replace BK272 := Aside0.mk (blk_below (g := gb272) (o := .cells #[.slice A0_0 l0_0.length c0_0, .slice A0_1 l0_1.length c0_1] 24 (0, 0)) (kU BK272.out) hb)
       replace BK273 := Aside0.mk (blk_below (g := gb273) (o := .cells #[.slice A1_0 l1_0.length c1_0, .slice A1_1 l1_1.length c1_1] 24 (0, 0)) (kU BK273.out) hb)
       replace BK295 := Aside0.mk (blk_below (g := gb295) (o := .cells #[.slice none 0 0, .slice none 0 0] 26 (0, 0)) (kU BK295.out) hb)
       replace HB := Aside0.mk (below_step (bS3 HB.out GE272.out GE273.out GE295.out) hb)
       (try clear hb)
       (try clear hb2)
       (try clear hk)
       (try clear hi)
       (try clear ho0)
       (try clear ho1)
       refine hK.out _ _ ⟨(blk_cell BK272.out 0).trans rfl, (blk_cell BK272.out 1).trans rfl, (blk_cell BK273.out 0).trans rfl, (blk_cell BK273.out 1).trans rfl⟩ (fun hHeld => ?_)
       clear hK K
       refine norm_ (a' := ?_) ?_ ?_
       rotate_left
       ·
        show Act.put _ (some 32) _ = _
        simp only [Act.put, List.setIfInBounds_toArray, List.set_cons_zero, List.set_cons_succ, i64_w, i32_w]
        rfl
       refine pure_ (i := 5) (N := some 27) (v := ?_) (a' := ?_) #[true, true, true, true, true, true, false, false, true, false, false] rfl rfl (any_of HT_.out (by kernel_rfl)) (fun _ _ _ h => h) (Or.inl ⟨by rfl, ?_⟩) ?_ ?_
       rotate_left
       ·
        intro w'
        go_simp
        with_reducible rfl
       rotate_left
       ·
        simp only [Act.put, List.setIfInBounds_toArray, List.set_cons_zero, List.set_cons_succ, i64_w, i32_w]
        rfl
       refine pure_ (i := 6) (N := some 33) (v := ?_) (a' := ?_) #[true, true, true, true, true, true, true, false, true, false, false] rfl rfl (any_of HT_.out (by kernel_rfl)) (fun _ _ _ h => h) (Or.inl ⟨by rfl, ?_⟩) ?_ ?_
       rotate_left
       ·
        intro w'
        go_simp
        with_reducible rfl
       rotate_left
       ·
        simp only [Act.put, List.setIfInBounds_toArray, List.set_cons_zero, List.set_cons_succ, i64_w, i32_w]
        rfl
       refine pure_ (i := 7) (N := some 34) (v := ?_) (a' := ?_) #[true, true, true, true, true, true, true, true, true, false, false] rfl rfl (any_of HT_.out (by kernel_rfl)) (fun _ _ _ h => h) (Or.inl ⟨by rfl, ?_⟩) ?_ ?_
       rotate_left
       ·
        intro w'
        go_simp
        with_reducible rfl
       rotate_left
       ·
        simp only [Act.put, List.setIfInBounds_toArray, List.set_cons_zero, List.set_cons_succ, i64_w, i32_w]
        rfl
       exact norm_ (by simp only [putAll, Act.put, List.setIfInBounds_toArray, List.set_cons_zero, List.set_cons_succ]) (hCont (.slice Ao37 t276.length co37, .slice Ao38 t279.length co38, .slice Ao39 t282.length co39, .slice Ao40 t285.length co40, v289, v292, gb295) _ ⟨hHeld, (by (with_reducible repeat (first | apply Kd.R_alloc | apply Kd.R_drewN | apply Kd.R_drew)); exact Kd.R_mono HO278.out (fun _ hk => ⟨hk.1.1.1.1, ⟨hk.1.1.1.2, ⟨hk.1.1.2, ⟨hk.1.2, hk.2⟩⟩⟩⟩)), (by (with_reducible repeat (first | apply Kd.R_alloc | apply Kd.R_drewN | apply Kd.R_drew)); exact Kd.R_mono HO281.out (fun _ hk => ⟨hk.1.1.1.1, ⟨hk.1.1.1.2, ⟨hk.1.1.2, ⟨hk.1.2, hk.2⟩⟩⟩⟩)), (by (with_reducible repeat (first | apply Kd.R_alloc | apply Kd.R_drewN | apply Kd.R_drew)); exact Kd.R_mono HO284.out (fun _ hk => ⟨hk.1.1.1.2, ⟨hk.1.1.2, ⟨hk.1.1.1.1, ⟨hk.1.2, hk.2⟩⟩⟩⟩)), (by (with_reducible repeat (first | apply Kd.R_alloc | apply Kd.R_drewN | apply Kd.R_drew)); exact Kd.R_mono HO287.out (fun _ hk => ⟨hk.1.1.1.2, ⟨hk.1.1.2, ⟨hk.1.1.1.1, ⟨hk.1.2, hk.2⟩⟩⟩⟩)), (by (with_reducible repeat (first | apply Kd.R_alloc | apply Kd.R_drewN | apply Kd.R_drew)); exact Kd.R_mono HO290.out (fun _ hk => ⟨hk.1.1.1.2, ⟨hk.1.1.2, ⟨hk.1.2, ⟨hk.2, hk.1.1.1.1⟩⟩⟩⟩)), (by (with_reducible repeat (first | apply Kd.R_alloc | apply Kd.R_drewN | apply Kd.R_drew)); exact Kd.R_mono HO293.out (fun _ hk => ⟨hk.1.1.1.2, ⟨hk.1.1.2, ⟨hk.1.2, ⟨hk.2, hk.1.1.1.1⟩⟩⟩⟩)), (kU BK272.out), (kU BK273.out), (kU BK295.out), GW295.out, GE295.out, NB272_295.out, NB295_272.out, NB273_295.out, NB295_273.out, (bS3 HB.out GE272.out GE273.out GE295.out)⟩)
     ·
      skip
      refine box_step ?hg (N := 6) ?hd (cs := #[.slice none 0 0, .slice none 0 0]) (t := 26) ?hr ?_; (case hd => rfl); (case hg => rfl); (case hr => first | (go_simp; done) | (go_simp; rfl))
      intro gb295 hg w35 hbox hb
      replace HO278 := Aside0.mk (Kd.R_below (RU HO278.out) hb)
      replace HO281 := Aside0.mk (Kd.R_below (RU HO281.out) hb)
      have BK295 := Aside0.mk (hbox)
      have GW295 := Aside0.mk ((by rw [hg]; exact (below_size (bS2 HB.out GE272.out GE273.out)) : w.heap.size ≤ gb295))
      have GE295 := Aside0.mk ((by rw [hg]; exact (below_size (bS2 HB.out GE272.out GE273.out)) : w.heap.size ≤ gb295))
      replace HB := Aside0.mk (below_step (bS2 HB.out GE272.out GE273.out) hb)
      have NB272_295 := Aside0.mk ((by rw [hg]; exact Nat.ne_of_lt (blk_lt (g := gb272) (o := .cells #[.slice A0_0 l0_0.length c0_0, .slice A0_1 l0_1.length c0_1] 24 (0, 0)) (kU BK272.out)) : gb272 ≠ gb295))
      have NB295_272 := Aside0.mk ((by rw [hg]; exact Nat.ne_of_gt (blk_lt (g := gb272) (o := .cells #[.slice A0_0 l0_0.length c0_0, .slice A0_1 l0_1.length c0_1] 24 (0, 0)) (kU BK272.out)) : gb295 ≠ gb272))
      replace BK272 := Aside0.mk (blk_below (g := gb272) (o := .cells #[.slice A0_0 l0_0.length c0_0, .slice A0_1 l0_1.length c0_1] 24 (0, 0)) (kU BK272.out) hb)
      have NB273_295 := Aside0.mk ((by rw [hg]; exact Nat.ne_of_lt (blk_lt (g := gb273) (o := .cells #[.slice A1_0 l1_0.length c1_0, .slice A1_1 l1_1.length c1_1] 24 (0, 0)) (kU BK273.out)) : gb273 ≠ gb295))
      have NB295_273 := Aside0.mk ((by rw [hg]; exact Nat.ne_of_gt (blk_lt (g := gb273) (o := .cells #[.slice A1_0 l1_0.length c1_0, .slice A1_1 l1_1.length c1_1] 24 (0, 0)) (kU BK273.out)) : gb295 ≠ gb273))
      replace BK273 := Aside0.mk (blk_below (g := gb273) (o := .cells #[.slice A1_0 l1_0.length c1_0, .slice A1_1 l1_1.length c1_1] 24 (0, 0)) (kU BK273.out) hb)
      clear hb hbox hg
      refine hK.out _ _ ⟨(blk_cell BK272.out 0).trans rfl, (blk_cell BK272.out 1).trans rfl, (blk_cell BK273.out 0).trans rfl, (blk_cell BK273.out 1).trans rfl⟩ (fun hHeld => ?_)
      clear hK K
      refine norm_ (a' := ?_) ?_ ?_
      rotate_left
      ·
       show Act.put _ (some 6) _ = _
       simp only [Act.put, List.setIfInBounds_toArray, List.set_cons_zero, List.set_cons_succ, i64_w, i32_w]
       rfl
      refine one_ (i := 3) (N := some 31) #[true, true, true, true, false, false, false, false, true, false, false] rfl rfl (one_of HT_.out (by kernel_rfl)) (by decide) (fun K hK => ?_)
      refine goes_ Try.func17 (by kernel_rfl) rfl #[.agg #[.slice A1_0 l1_0.length c1_0, .slice A1_1 l1_1.length c1_1]] (by rfl) rfl rfl (by (try simp only [List.map_toArray, List.map_cons, List.map_nil]); first | done | rfl | (simp only [List.length_drop, List.length_take]; rfl)) ?_
      with_reducible refine (laws_toArray.calls k _ _ l1_0 _ _ l1_1 t282 t285 _ ?side1 ?side2 ?side3 ?side4 A20.out).mono ?_
      (case side1 => exact cU (Kd.C_below HR1_0.out HB.out))
      (case side2 => exact HC1_0.out)
      (case side3 => exact cU (Kd.C_below HR1_1.out HB.out))
      (case side4 => exact HC1_1.out)
      rintro e w36 ⟨v283, v286, rfl, ho0, ho1, hb⟩
      refine ⟨_, rfl, ?_⟩
      have HO284 := Aside0.mk (Kd.R_lower (Kd.R_new' (Kd.R_new' ho0 (Kd.R_lt (RU HO278.out))) (Kd.R_lt (RU HO281.out))) (below_size (bS3 HB.out GE272.out GE273.out GE295.out)))
      have HO287 := Aside0.mk (Kd.R_lower (Kd.R_new' (Kd.R_new' ho1 (Kd.R_lt (RU HO278.out))) (Kd.R_lt (RU HO281.out))) (below_size (bS3 HB.out GE272.out GE273.out GE295.out)))
      replace HO278 := Aside0.mk (Kd.R_mono (Kd.R_told (Kd.R_told (Kd.R_old (RU HO278.out) hb) (Kd.R_base ho0)) (Kd.R_base ho1)) (fun _ h_ => h_.1))
      replace HO281 := Aside0.mk (Kd.R_mono (Kd.R_told (Kd.R_told (Kd.R_old (RU HO281.out) hb) (Kd.R_base ho0)) (Kd.R_base ho1)) (fun _ h_ => h_.1))
      replace BK272 := Aside0.mk (blk_below (g := gb272) (o := .cells #[.slice A0_0 l0_0.length c0_0, .slice A0_1 l0_1.length c0_1] 24 (0, 0)) (kU BK272.out) hb)
      replace BK273 := Aside0.mk (blk_below (g := gb273) (o := .cells #[.slice A1_0 l1_0.length c1_0, .slice A1_1 l1_1.length c1_1] 24 (0, 0)) (kU BK273.out) hb)
      replace BK295 := Aside0.mk (blk_below (g := gb295) (o := .cells #[.slice none 0 0, .slice none 0 0] 26 (0, 0)) (kU BK295.out) hb)
      replace HB := Aside0.mk (below_step (bS3 HB.out GE272.out GE273.out GE295.out) hb)
      (try clear hb)
      (try clear hb2)
      (try clear hk)
      (try clear hi)
      (try clear ho0)
      (try clear ho1)
      obtain ⟨Ao37, co37, eo37⟩ := Kd.R_slice HO278.out
      (first | subst eo37 | (injection eo37 with f1_ f2_ f3_; have f4_ := f1_.symm; have f5_ := f3_.symm; clear f1_ f2_ f3_; subst f4_; subst f5_))
      obtain ⟨Ao38, co38, eo38⟩ := Kd.R_slice HO281.out
      (first | subst eo38 | (injection eo38 with f1_ f2_ f3_; have f4_ := f1_.symm; have f5_ := f3_.symm; clear f1_ f2_ f3_; subst f4_; subst f5_))
      obtain ⟨Ao39, co39, eo39⟩ := Kd.R_slice HO284.out
      (first | subst eo39 | (injection eo39 with f1_ f2_ f3_; have f4_ := f1_.symm; have f5_ := f3_.symm; clear f1_ f2_ f3_; subst f4_; subst f5_))
      obtain ⟨Ao40, co40, eo40⟩ := Kd.R_slice HO287.out
      (first | subst eo40 | (injection eo40 with f1_ f2_ f3_; have f4_ := f1_.symm; have f5_ := f3_.symm; clear f1_ f2_ f3_; subst f4_; subst f5_))
      refine hK.out _ _ ⟨(blk_cell BK272.out 0).trans rfl, (blk_cell BK272.out 1).trans rfl, (blk_cell BK273.out 0).trans rfl, (blk_cell BK273.out 1).trans rfl⟩ (fun hHeld => ?_)
      clear hK K
      refine norm_ (a' := ?_) ?_ ?_
      rotate_left
      ·
       show Act.put _ (some 31) _ = _
       simp only [Act.put, List.setIfInBounds_toArray, List.set_cons_zero, List.set_cons_succ, i64_w, i32_w]
       rfl
      refine one_ (i := 4) (N := some 32) #[true, true, true, true, true, false, false, false, true, false, false] rfl rfl (one_of HT_.out (by kernel_rfl)) (by decide) (fun K hK => ?_)
      refine goes_ Try.func43 (by kernel_rfl) rfl #[.agg #[.slice Ao37 t276.length co37, .slice Ao38 t279.length co38], .agg #[.slice Ao39 t282.length co39, .slice Ao40 t285.length co40]] (by rfl) rfl rfl (by (try simp only [List.map_toArray, List.map_cons, List.map_nil]); first | done | rfl | (simp only [List.length_drop, List.length_take]; rfl)) ?_
      with_reducible refine (spec_Copy.calls k _ _ t276 _ _ t279 _ _ t282 _ _ t285 t288 t291 t294 _ ?side1 ?side2 ?side3 ?side4 ?side5 ?side6 ?side7 ?side8 A21.out).mono ?_
      (case side1 => exact cU (Kd.R_reads' HO278.out).2.2)
      (case side2 => exact (Kd.R_reads' HO278.out).2.1)
      (case side3 => exact cU (Kd.R_reads' HO281.out).2.2)
      (case side4 => exact (Kd.R_reads' HO281.out).2.1)
      (case side5 => exact cU (Kd.R_reads' HO284.out).2.2)
      (case side6 => exact (Kd.R_reads' HO284.out).2.1)
      (case side7 => exact cU (Kd.R_reads' HO287.out).2.2)
      (case side8 => exact (Kd.R_reads' HO287.out).2.1)
      rintro e w41 ⟨v289, v292, rfl, ho0, ho1, hb⟩
      refine ⟨_, rfl, ?_⟩
      have HO290 := Aside0.mk (Kd.R_lower (Kd.R_new' (Kd.R_new' (Kd.R_new' (Kd.R_new' ho0 (Kd.R_lt (RU HO278.out))) (Kd.R_lt (RU HO281.out))) (Kd.R_lt (RU HO284.out))) (Kd.R_lt (RU HO287.out))) (below_size (bS3 HB.out GE272.out GE273.out GE295.out)))
      have HO293 := Aside0.mk (Kd.R_lower (Kd.R_new' (Kd.R_new' (Kd.R_new' (Kd.R_new' ho1 (Kd.R_lt (RU HO278.out))) (Kd.R_lt (RU HO281.out))) (Kd.R_lt (RU HO284.out))) (Kd.R_lt (RU HO287.out))) (below_size (bS3 HB.out GE272.out GE273.out GE295.out)))
      replace HO278 := Aside0.mk (Kd.R_mono (Kd.R_told (Kd.R_told (Kd.R_old (RU HO278.out) hb) (Kd.R_base ho0)) (Kd.R_base ho1)) (fun _ h_ => h_.1))
      replace HO281 := Aside0.mk (Kd.R_mono (Kd.R_told (Kd.R_told (Kd.R_old (RU HO281.out) hb) (Kd.R_base ho0)) (Kd.R_base ho1)) (fun _ h_ => h_.1))
      replace HO284 := Aside0.mk (Kd.R_mono (Kd.R_told (Kd.R_told (Kd.R_old (RU HO284.out) hb) (Kd.R_base ho0)) (Kd.R_base ho1)) (fun _ h_ => h_.1))
      replace HO287 := Aside0.mk (Kd.R_mono (Kd.R_told (Kd.R_told (Kd.R_old (RU HO287.out) hb) (Kd.R_base ho0)) (Kd.R_base ho1)) (fun _ h_ => h_.1))
      replace BK272 := Aside0.mk (blk_below (g := gb272) (o := .cells #[.slice A0_0 l0_0.length c0_0, .slice A0_1 l0_1.length c0_1] 24 (0, 0)) (kU BK272.out) hb)
      replace BK273 := Aside0.mk (blk_below (g := gb273) (o := .cells #[.slice A1_0 l1_0.length c1_0, .slice A1_1 l1_1.length c1_1] 24 (0, 0)) (kU BK273.out) hb)
      replace BK295 := Aside0.mk (blk_below (g := gb295) (o := .cells #[.slice none 0 0, .slice none 0 0] 26 (0, 0)) (kU BK295.out) hb)
      replace HB := Aside0.mk (below_step (bS3 HB.out GE272.out GE273.out GE295.out) hb)
      (try clear hb)
      (try clear hb2)
      (try clear hk)
      (try clear hi)
      (try clear ho0)
      (try clear ho1)
      refine hK.out _ _ ⟨(blk_cell BK272.out 0).trans rfl, (blk_cell BK272.out 1).trans rfl, (blk_cell BK273.out 0).trans rfl, (blk_cell BK273.out 1).trans rfl⟩ (fun hHeld => ?_)
      clear hK K
      refine norm_ (a' := ?_) ?_ ?_
      rotate_left
      ·
       show Act.put _ (some 32) _ = _
       simp only [Act.put, List.setIfInBounds_toArray, List.set_cons_zero, List.set_cons_succ, i64_w, i32_w]
       rfl
      refine pure_ (i := 5) (N := some 27) (v := ?_) (a' := ?_) #[true, true, true, true, true, true, false, false, true, false, false] rfl rfl (any_of HT_.out (by kernel_rfl)) (fun _ _ _ h => h) (Or.inl ⟨by rfl, ?_⟩) ?_ ?_
      rotate_left
      ·
       intro w'
       go_simp
       with_reducible rfl
      rotate_left
      ·
       simp only [Act.put, List.setIfInBounds_toArray, List.set_cons_zero, List.set_cons_succ, i64_w, i32_w]
       rfl
      refine pure_ (i := 6) (N := some 33) (v := ?_) (a' := ?_) #[true, true, true, true, true, true, true, false, true, false, false] rfl rfl (any_of HT_.out (by kernel_rfl)) (fun _ _ _ h => h) (Or.inl ⟨by rfl, ?_⟩) ?_ ?_
      rotate_left
      ·
       intro w'
       go_simp
       with_reducible rfl
      rotate_left
      ·
       simp only [Act.put, List.setIfInBounds_toArray, List.set_cons_zero, List.set_cons_succ, i64_w, i32_w]
       rfl
      refine pure_ (i := 7) (N := some 34) (v := ?_) (a' := ?_) #[true, true, true, true, true, true, true, true, true, false, false] rfl rfl (any_of HT_.out (by kernel_rfl)) (fun _ _ _ h => h) (Or.inl ⟨by rfl, ?_⟩) ?_ ?_
      rotate_left
      ·
       intro w'
       go_simp
       with_reducible rfl
      rotate_left
      ·
       simp only [Act.put, List.setIfInBounds_toArray, List.set_cons_zero, List.set_cons_succ, i64_w, i32_w]
       rfl
      exact norm_ (by simp only [putAll, Act.put, List.setIfInBounds_toArray, List.set_cons_zero, List.set_cons_succ]) (hCont (.slice Ao37 t276.length co37, .slice Ao38 t279.length co38, .slice Ao39 t282.length co39, .slice Ao40 t285.length co40, v289, v292, gb295) _ ⟨hHeld, (by (with_reducible repeat (first | apply Kd.R_alloc | apply Kd.R_drewN | apply Kd.R_drew)); exact Kd.R_mono HO278.out (fun _ hk => ⟨hk.1.1.1.1, ⟨hk.1.1.1.2, ⟨hk.1.1.2, ⟨hk.1.2, hk.2⟩⟩⟩⟩)), (by (with_reducible repeat (first | apply Kd.R_alloc | apply Kd.R_drewN | apply Kd.R_drew)); exact Kd.R_mono HO281.out (fun _ hk => ⟨hk.1.1.1.1, ⟨hk.1.1.1.2, ⟨hk.1.1.2, ⟨hk.1.2, hk.2⟩⟩⟩⟩)), (by (with_reducible repeat (first | apply Kd.R_alloc | apply Kd.R_drewN | apply Kd.R_drew)); exact Kd.R_mono HO284.out (fun _ hk => ⟨hk.1.1.1.2, ⟨hk.1.1.2, ⟨hk.1.1.1.1, ⟨hk.1.2, hk.2⟩⟩⟩⟩)), (by (with_reducible repeat (first | apply Kd.R_alloc | apply Kd.R_drewN | apply Kd.R_drew)); exact Kd.R_mono HO287.out (fun _ hk => ⟨hk.1.1.1.2, ⟨hk.1.1.2, ⟨hk.1.1.1.1, ⟨hk.1.2, hk.2⟩⟩⟩⟩)), (by (with_reducible repeat (first | apply Kd.R_alloc | apply Kd.R_drewN | apply Kd.R_drew)); exact Kd.R_mono HO290.out (fun _ hk => ⟨hk.1.1.1.2, ⟨hk.1.1.2, ⟨hk.1.2, ⟨hk.2, hk.1.1.1.1⟩⟩⟩⟩)), (by (with_reducible repeat (first | apply Kd.R_alloc | apply Kd.R_drewN | apply Kd.R_drew)); exact Kd.R_mono HO293.out (fun _ hk => ⟨hk.1.1.1.2, ⟨hk.1.1.2, ⟨hk.1.2, ⟨hk.2, hk.1.1.1.1⟩⟩⟩⟩)), (kU BK272.out), (kU BK273.out), (kU BK295.out), GW295.out, GE295.out, NB272_295.out, NB295_272.out, NB273_295.out, NB295_273.out, (bS3 HB.out GE272.out GE273.out GE295.out)⟩)
    ·
     skip
     refine box_step ?hg (N := 6) ?hd (cs := #[.slice none 0 0, .slice none 0 0]) (t := 26) ?hr ?_; (case hd => rfl); (case hg => rfl); (case hr => first | (go_simp; done) | (go_simp; rfl))
     intro gb295 hg w34 hbox hb
     have BK295 := Aside0.mk (hbox)
     have GW295 := Aside0.mk ((by rw [hg]; exact (below_size (bS2 HB.out GE272.out GE273.out)) : w.heap.size ≤ gb295))
     have GE295 := Aside0.mk ((by rw [hg]; exact (below_size (bS2 HB.out GE272.out GE273.out)) : w.heap.size ≤ gb295))
     replace HB := Aside0.mk (below_step (bS2 HB.out GE272.out GE273.out) hb)
     have NB272_295 := Aside0.mk ((by rw [hg]; exact Nat.ne_of_lt (blk_lt (g := gb272) (o := .cells #[.slice A0_0 l0_0.length c0_0, .slice A0_1 l0_1.length c0_1] 24 (0, 0)) (kU BK272.out)) : gb272 ≠ gb295))
     have NB295_272 := Aside0.mk ((by rw [hg]; exact Nat.ne_of_gt (blk_lt (g := gb272) (o := .cells #[.slice A0_0 l0_0.length c0_0, .slice A0_1 l0_1.length c0_1] 24 (0, 0)) (kU BK272.out)) : gb295 ≠ gb272))
     replace BK272 := Aside0.mk (blk_below (g := gb272) (o := .cells #[.slice A0_0 l0_0.length c0_0, .slice A0_1 l0_1.length c0_1] 24 (0, 0)) (kU BK272.out) hb)
     have NB273_295 := Aside0.mk ((by rw [hg]; exact Nat.ne_of_lt (blk_lt (g := gb273) (o := .cells #[.slice A1_0 l1_0.length c1_0, .slice A1_1 l1_1.length c1_1] 24 (0, 0)) (kU BK273.out)) : gb273 ≠ gb295))
     have NB295_273 := Aside0.mk ((by rw [hg]; exact Nat.ne_of_gt (blk_lt (g := gb273) (o := .cells #[.slice A1_0 l1_0.length c1_0, .slice A1_1 l1_1.length c1_1] 24 (0, 0)) (kU BK273.out)) : gb295 ≠ gb273))
     replace BK273 := Aside0.mk (blk_below (g := gb273) (o := .cells #[.slice A1_0 l1_0.length c1_0, .slice A1_1 l1_1.length c1_1] 24 (0, 0)) (kU BK273.out) hb)
     clear hb hbox hg
     refine hK.out _ _ ⟨(blk_cell BK272.out 0).trans rfl, (blk_cell BK272.out 1).trans rfl, (blk_cell BK273.out 0).trans rfl, (blk_cell BK273.out 1).trans rfl⟩ (fun hHeld => ?_)
     clear hK K
     refine norm_ (a' := ?_) ?_ ?_
     rotate_left
     ·
      show Act.put _ (some 6) _ = _
      simp only [Act.put, List.setIfInBounds_toArray, List.set_cons_zero, List.set_cons_succ, i64_w, i32_w]
      rfl
     refine one_ (i := 1) (N := some 29) #[true, true, true, false, false, false, false, false, true, false, false] rfl rfl (one_of HT_.out (by kernel_rfl)) (by decide) (fun K hK => ?_)
     refine goes_ Try.func17 (by kernel_rfl) rfl #[.agg #[.slice A0_0 l0_0.length c0_0, .slice A0_1 l0_1.length c0_1]] (by rfl) rfl rfl (by (try simp only [List.map_toArray, List.map_cons, List.map_nil]); first | done | rfl | (simp only [List.length_drop, List.length_take]; rfl)) ?_
     with_reducible refine (laws_toArray.calls k _ _ l0_0 _ _ l0_1 t276 t279 _ ?side1 ?side2 ?side3 ?side4 A19.out).mono ?_
     (case side1 => exact cU (Kd.C_below HR0_0.out HB.out))
     (case side2 => exact HC0_0.out)
     (case side3 => exact cU (Kd.C_below HR0_1.out HB.out))
     (case side4 => exact HC0_1.out)
     rintro e w35 ⟨v277, v280, rfl, ho0, ho1, hb⟩
     refine ⟨_, rfl, ?_⟩
     have HO278 := Aside0.mk (Kd.R_lower ho0 (below_size (bS3 HB.out GE272.out GE273.out GE295.out)))
     have HO281 := Aside0.mk (Kd.R_lower ho1 (below_size (bS3 HB.out GE272.out GE273.out GE295.out)))
     replace BK272 := Aside0.mk (blk_below (g := gb272) (o := .cells #[.slice A0_0 l0_0.length c0_0, .slice A0_1 l0_1.length c0_1] 24 (0, 0)) (kU BK272.out) hb)
     replace BK273 := Aside0.mk (blk_below (g := gb273) (o := .cells #[.slice A1_0 l1_0.length c1_0, .slice A1_1 l1_1.length c1_1] 24 (0, 0)) (kU BK273.out) hb)
     replace BK295 := Aside0.mk (blk_below (g := gb295) (o := .cells #[.slice none 0 0, .slice none 0 0] 26 (0, 0)) (kU BK295.out) hb)
     replace HB := Aside0.mk (below_step (bS3 HB.out GE272.out GE273.out GE295.out) hb)
     (try clear hb)
     (try clear hb2)
     (try clear hk)
     (try clear hi)
     (try clear ho0)
     (try clear ho1)
     refine hK.out _ _ ⟨(blk_cell BK272.out 0).trans rfl, (blk_cell BK272.out 1).trans rfl, (blk_cell BK273.out 0).trans rfl, (blk_cell BK273.out 1).trans rfl⟩ (fun hHeld => ?_)
     clear hK K
     refine norm_ (a' := ?_) ?_ ?_
     rotate_left
     ·
      show Act.put _ (some 29) _ = _
      simp only [Act.put, List.setIfInBounds_toArray, List.set_cons_zero, List.set_cons_succ, i64_w, i32_w]
      rfl
     refine one_ (i := 3) (N := some 31) #[true, true, true, true, false, false, false, false, true, false, false] rfl rfl (one_of HT_.out (by kernel_rfl)) (by decide) (fun K hK => ?_)
     refine goes_ Try.func17 (by kernel_rfl) rfl #[.agg #[.slice A1_0 l1_0.length c1_0, .slice A1_1 l1_1.length c1_1]] (by rfl) rfl rfl (by (try simp only [List.map_toArray, List.map_cons, List.map_nil]); first | done | rfl | (simp only [List.length_drop, List.length_take]; rfl)) ?_
     with_reducible refine (laws_toArray.calls k _ _ l1_0 _ _ l1_1 t282 t285 _ ?side1 ?side2 ?side3 ?side4 A20.out).mono ?_
     (case side1 => exact cU (Kd.C_below HR1_0.out HB.out))
     (case side2 => exact HC1_0.out)
     (case side3 => exact cU (Kd.C_below HR1_1.out HB.out))
     (case side4 => exact HC1_1.out)
     rintro e w36 ⟨v283, v286, rfl, ho0, ho1, hb⟩
     refine ⟨_, rfl, ?_⟩
     have HO284 := Aside0.mk (Kd.R_lower (Kd.R_new' (Kd.R_new' ho0 (Kd.R_lt (RU HO278.out))) (Kd.R_lt (RU HO281.out))) (below_size (bS3 HB.out GE272.out GE273.out GE295.out)))
     have HO287 := Aside0.mk (Kd.R_lower (Kd.R_new' (Kd.R_new' ho1 (Kd.R_lt (RU HO278.out))) (Kd.R_lt (RU HO281.out))) (below_size (bS3 HB.out GE272.out GE273.out GE295.out)))
     replace HO278 := Aside0.mk (Kd.R_mono (Kd.R_told (Kd.R_told (Kd.R_old (RU HO278.out) hb) (Kd.R_base ho0)) (Kd.R_base ho1)) (fun _ h_ => h_.1))
     replace HO281 := Aside0.mk (Kd.R_mono (Kd.R_told (Kd.R_told (Kd.R_old (RU HO281.out) hb) (Kd.R_base ho0)) (Kd.R_base ho1)) (fun _ h_ => h_.1))
     replace BK272 := Aside0.mk (blk_below (g := gb272) (o := .cells #[.slice A0_0 l0_0.length c0_0, .slice A0_1 l0_1.length c0_1] 24 (0, 0)) (kU BK272.out) hb)
     replace BK273 := Aside0.mk (blk_below (g := gb273) (o := .cells #[.slice A1_0 l1_0.length c1_0, .slice A1_1 l1_1.length c1_1] 24 (0, 0)) (kU BK273.out) hb)
     replace BK295 := Aside0.mk (blk_below (g := gb295) (o := .cells #[.slice none 0 0, .slice none 0 0] 26 (0, 0)) (kU BK295.out) hb)
     replace HB := Aside0.mk (below_step (bS3 HB.out GE272.out GE273.out GE295.out) hb)
     (try clear hb)
     (try clear hb2)
     (try clear hk)
     (try clear hi)
     (try clear ho0)
     (try clear ho1)
     obtain ⟨Ao37, co37, eo37⟩ := Kd.R_slice HO278.out
     (first | subst eo37 | (injection eo37 with f1_ f2_ f3_; have f4_ := f1_.symm; have f5_ := f3_.symm; clear f1_ f2_ f3_; subst f4_; subst f5_))
     obtain ⟨Ao38, co38, eo38⟩ := Kd.R_slice HO281.out
     (first | subst eo38 | (injection eo38 with f1_ f2_ f3_; have f4_ := f1_.symm; have f5_ := f3_.symm; clear f1_ f2_ f3_; subst f4_; subst f5_))
     obtain ⟨Ao39, co39, eo39⟩ := Kd.R_slice HO284.out
     (first | subst eo39 | (injection eo39 with f1_ f2_ f3_; have f4_ := f1_.symm; have f5_ := f3_.symm; clear f1_ f2_ f3_; subst f4_; subst f5_))
     obtain ⟨Ao40, co40, eo40⟩ := Kd.R_slice HO287.out
     (first | subst eo40 | (injection eo40 with f1_ f2_ f3_; have f4_ := f1_.symm; have f5_ := f3_.symm; clear f1_ f2_ f3_; subst f4_; subst f5_))
     refine hK.out _ _ ⟨(blk_cell BK272.out 0).trans rfl, (blk_cell BK272.out 1).trans rfl, (blk_cell BK273.out 0).trans rfl, (blk_cell BK273.out 1).trans rfl⟩ (fun hHeld => ?_)
     clear hK K
     refine norm_ (a' := ?_) ?_ ?_
     rotate_left
     ·
      show Act.put _ (some 31) _ = _
      simp only [Act.put, List.setIfInBounds_toArray, List.set_cons_zero, List.set_cons_succ, i64_w, i32_w]
      rfl
     refine one_ (i := 4) (N := some 32) #[true, true, true, true, true, false, false, false, true, false, false] rfl rfl (one_of HT_.out (by kernel_rfl)) (by decide) (fun K hK => ?_)
     refine goes_ Try.func43 (by kernel_rfl) rfl #[.agg #[.slice Ao37 t276.length co37, .slice Ao38 t279.length co38], .agg #[.slice Ao39 t282.length co39, .slice Ao40 t285.length co40]] (by rfl) rfl rfl (by (try simp only [List.map_toArray, List.map_cons, List.map_nil]); first | done | rfl | (simp only [List.length_drop, List.length_take]; rfl)) ?_
     with_reducible refine (spec_Copy.calls k _ _ t276 _ _ t279 _ _ t282 _ _ t285 t288 t291 t294 _ ?side1 ?side2 ?side3 ?side4 ?side5 ?side6 ?side7 ?side8 A21.out).mono ?_
     (case side1 => exact cU (Kd.R_reads' HO278.out).2.2)
     (case side2 => exact (Kd.R_reads' HO278.out).2.1)
     (case side3 => exact cU (Kd.R_reads' HO281.out).2.2)
     (case side4 => exact (Kd.R_reads' HO281.out).2.1)
     (case side5 => exact cU (Kd.R_reads' HO284.out).2.2)
     (case side6 => exact (Kd.R_reads' HO284.out).2.1)
     (case side7 => exact cU (Kd.R_reads' HO287.out).2.2)
     (case side8 => exact (Kd.R_reads' HO287.out).2.1)
     rintro e w41 ⟨v289, v292, rfl, ho0, ho1, hb⟩
     refine ⟨_, rfl, ?_⟩
     have HO290 := Aside0.mk (Kd.R_lower (Kd.R_new' (Kd.R_new' (Kd.R_new' (Kd.R_new' ho0 (Kd.R_lt (RU HO278.out))) (Kd.R_lt (RU HO281.out))) (Kd.R_lt (RU HO284.out))) (Kd.R_lt (RU HO287.out))) (below_size (bS3 HB.out GE272.out GE273.out GE295.out)))
     have HO293 := Aside0.mk (Kd.R_lower (Kd.R_new' (Kd.R_new' (Kd.R_new' (Kd.R_new' ho1 (Kd.R_lt (RU HO278.out))) (Kd.R_lt (RU HO281.out))) (Kd.R_lt (RU HO284.out))) (Kd.R_lt (RU HO287.out))) (below_size (bS3 HB.out GE272.out GE273.out GE295.out)))
     replace HO278 := Aside0.mk (Kd.R_mono (Kd.R_told (Kd.R_told (Kd.R_old (RU HO278.out) hb) (Kd.R_base ho0)) (Kd.R_base ho1)) (fun _ h_ => h_.1))
     replace HO281 := Aside0.mk (Kd.R_mono (Kd.R_told (Kd.R_told (Kd.R_old (RU HO281.out) hb) (Kd.R_base ho0)) (Kd.R_base ho1)) (fun _ h_ => h_.1))
     replace HO284 := Aside0.mk (Kd.R_mono (Kd.R_told (Kd.R_told (Kd.R_old (RU HO284.out) hb) (Kd.R_base ho0)) (Kd.R_base ho1)) (fun _ h_ => h_.1))
     replace HO287 := Aside0.mk (Kd.R_mono (Kd.R_told (Kd.R_told (Kd.R_old (RU HO287.out) hb) (Kd.R_base ho0)) (Kd.R_base ho1)) (fun _ h_ => h_.1))
     replace BK272 := Aside0.mk (blk_below (g := gb272) (o := .cells #[.slice A0_0 l0_0.length c0_0, .slice A0_1 l0_1.length c0_1] 24 (0, 0)) (kU BK272.out) hb)
     replace BK273 := Aside0.mk (blk_below (g := gb273) (o := .cells #[.slice A1_0 l1_0.length c1_0, .slice A1_1 l1_1.length c1_1] 24 (0, 0)) (kU BK273.out) hb)
     replace BK295 := Aside0.mk (blk_below (g := gb295) (o := .cells #[.slice none 0 0, .slice none 0 0] 26 (0, 0)) (kU BK295.out) hb)
     replace HB := Aside0.mk (below_step (bS3 HB.out GE272.out GE273.out GE295.out) hb)
     (try clear hb)
     (try clear hb2)
     (try clear hk)
     (try clear hi)
     (try clear ho0)
     (try clear ho1)
     refine hK.out _ _ ⟨(blk_cell BK272.out 0).trans rfl, (blk_cell BK272.out 1).trans rfl, (blk_cell BK273.out 0).trans rfl, (blk_cell BK273.out 1).trans rfl⟩ (fun hHeld => ?_)
     clear hK K
     refine norm_ (a' := ?_) ?_ ?_
     rotate_left
     ·
      show Act.put _ (some 32) _ = _
      simp only [Act.put, List.setIfInBounds_toArray, List.set_cons_zero, List.set_cons_succ, i64_w, i32_w]
      rfl
     refine pure_ (i := 5) (N := some 27) (v := ?_) (a' := ?_) #[true, true, true, true, true, true, false, false, true, false, false] rfl rfl (any_of HT_.out (by kernel_rfl)) (fun _ _ _ h => h) (Or.inl ⟨by rfl, ?_⟩) ?_ ?_
     rotate_left
     ·
      intro w'
      go_simp
      with_reducible rfl
     rotate_left
     ·
      simp only [Act.put, List.setIfInBounds_toArray, List.set_cons_zero, List.set_cons_succ, i64_w, i32_w]
      rfl
     refine pure_ (i := 6) (N := some 33) (v := ?_) (a' := ?_) #[true, true, true, true, true, true, true, false, true, false, false] rfl rfl (any_of HT_.out (by kernel_rfl)) (fun _ _ _ h => h) (Or.inl ⟨by rfl, ?_⟩) ?_ ?_
     rotate_left
     ·
      intro w'
      go_simp
      with_reducible rfl
     rotate_left
     ·
      simp only [Act.put, List.setIfInBounds_toArray, List.set_cons_zero, List.set_cons_succ, i64_w, i32_w]
      rfl
     refine pure_ (i := 7) (N := some 34) (v := ?_) (a' := ?_) #[true, true, true, true, true, true, true, true, true, false, false] rfl rfl (any_of HT_.out (by kernel_rfl)) (fun _ _ _ h => h) (Or.inl ⟨by rfl, ?_⟩) ?_ ?_
     rotate_left
     ·
      intro w'
      go_simp
      with_reducible rfl
     rotate_left
     ·
      simp only [Act.put, List.setIfInBounds_toArray, List.set_cons_zero, List.set_cons_succ, i64_w, i32_w]
      rfl
     exact norm_ (by simp only [putAll, Act.put, List.setIfInBounds_toArray, List.set_cons_zero, List.set_cons_succ]) (hCont (.slice Ao37 t276.length co37, .slice Ao38 t279.length co38, .slice Ao39 t282.length co39, .slice Ao40 t285.length co40, v289, v292, gb295) _ ⟨hHeld, (by (with_reducible repeat (first | apply Kd.R_alloc | apply Kd.R_drewN | apply Kd.R_drew)); exact Kd.R_mono HO278.out (fun _ hk => ⟨hk.1.1.1.1, ⟨hk.1.1.1.2, ⟨hk.1.1.2, ⟨hk.1.2, hk.2⟩⟩⟩⟩)), (by (with_reducible repeat (first | apply Kd.R_alloc | apply Kd.R_drewN | apply Kd.R_drew)); exact Kd.R_mono HO281.out (fun _ hk => ⟨hk.1.1.1.1, ⟨hk.1.1.1.2, ⟨hk.1.1.2, ⟨hk.1.2, hk.2⟩⟩⟩⟩)), (by (with_reducible repeat (first | apply Kd.R_alloc | apply Kd.R_drewN | apply Kd.R_drew)); exact Kd.R_mono HO284.out (fun _ hk => ⟨hk.1.1.1.2, ⟨hk.1.1.2, ⟨hk.1.1.1.1, ⟨hk.1.2, hk.2⟩⟩⟩⟩)), (by (with_reducible repeat (first | apply Kd.R_alloc | apply Kd.R_drewN | apply Kd.R_drew)); exact Kd.R_mono HO287.out (fun _ hk => ⟨hk.1.1.1.2, ⟨hk.1.1.2, ⟨hk.1.1.1.1, ⟨hk.1.2, hk.2⟩⟩⟩⟩)), (by (with_reducible repeat (first | apply Kd.R_alloc | apply Kd.R_drewN | apply Kd.R_drew)); exact Kd.R_mono HO290.out (fun _ hk => ⟨hk.1.1.1.2, ⟨hk.1.1.2, ⟨hk.1.2, ⟨hk.2, hk.1.1.1.1⟩⟩⟩⟩)), (by (with_reducible repeat (first | apply Kd.R_alloc | apply Kd.R_drewN | apply Kd.R_drew)); exact Kd.R_mono HO293.out (fun _ hk => ⟨hk.1.1.1.2, ⟨hk.1.1.2, ⟨hk.1.2, ⟨hk.2, hk.1.1.1.1⟩⟩⟩⟩)), (kU BK272.out), (kU BK273.out), (kU BK295.out), GW295.out, GE295.out, NB272_295.out, NB295_272.out, NB273_295.out, NB295_273.out, (bS3 HB.out GE272.out GE273.out GE295.out)⟩)
   rintro ⟨v277, v280, v283, v286, v289, v292, gb295⟩ w42 ⟨hS_, h0_, h1_, h2_, h3_, h4_, h5_, h6_, h7_, h8_, h9_, h10_, h11_, h12_, h13_, h14_, h15_⟩
   have n0_ : Aside0 (Kd.R (Kd.int .i64) 3 w42 w.heap.size (fun k_ => some k_ ≠ (v280 : Value).ownBlock ∧ some k_ ≠ (v283 : Value).ownBlock ∧ some k_ ≠ (v286 : Value).ownBlock ∧ some k_ ≠ (v289 : Value).ownBlock ∧ some k_ ≠ (v292 : Value).ownBlock) v277 t276) := ⟨h0_⟩
   have n1_ : Aside0 (Kd.R (Kd.int .i64) 3 w42 w.heap.size (fun k_ => some k_ ≠ (v277 : Value).ownBlock ∧ some k_ ≠ (v283 : Value).ownBlock ∧ some k_ ≠ (v286 : Value).ownBlock ∧ some k_ ≠ (v289 : Value).ownBlock ∧ some k_ ≠ (v292 : Value).ownBlock) v280 t279) := ⟨h1_⟩
   have n2_ : Aside0 (Kd.R (Kd.int .i64) 3 w42 w.heap.size (fun k_ => some k_ ≠ (v277 : Value).ownBlock ∧ some k_ ≠ (v280 : Value).ownBlock ∧ some k_ ≠ (v286 : Value).ownBlock ∧ some k_ ≠ (v289 : Value).ownBlock ∧ some k_ ≠ (v292 : Value).ownBlock) v283 t282) := ⟨h2_⟩
   have n3_ : Aside0 (Kd.R (Kd.int .i64) 3 w42 w.heap.size (fun k_ => some k_ ≠ (v277 : Value).ownBlock ∧ some k_ ≠ (v280 : Value).ownBlock ∧ some k_ ≠ (v283 : Value).ownBlock ∧ some k_ ≠ (v289 : Value).ownBlock ∧ some k_ ≠ (v292 : Value).ownBlock) v286 t285) := ⟨h3_⟩
   have n4_ : Aside0 (Kd.R (Kd.int .i64) 3 w42 w.heap.size (fun k_ => some k_ ≠ (v277 : Value).ownBlock ∧ some k_ ≠ (v280 : Value).ownBlock ∧ some k_ ≠ (v283 : Value).ownBlock ∧ some k_ ≠ (v286 : Value).ownBlock ∧ some k_ ≠ (v292 : Value).ownBlock) v289 t288) := ⟨h4_⟩
   have n5_ : Aside0 (Kd.R (Kd.int .i64) 3 w42 w.heap.size (fun k_ => some k_ ≠ (v277 : Value).ownBlock ∧ some k_ ≠ (v280 : Value).ownBlock ∧ some k_ ≠ (v283 : Value).ownBlock ∧ some k_ ≠ (v286 : Value).ownBlock ∧ some k_ ≠ (v289 : Value).ownBlock) v292 t291) := ⟨h5_⟩
   have n6_ : Aside0 (w42.heap[gb272]? = some (.cells #[.slice A0_0 l0_0.length c0_0, .slice A0_1 l0_1.length c0_1] 24 (0, 0))) := ⟨h6_⟩
   have n7_ : Aside0 (w42.heap[gb273]? = some (.cells #[.slice A1_0 l1_0.length c1_0, .slice A1_1 l1_1.length c1_1] 24 (0, 0))) := ⟨h7_⟩
   have n8_ : Aside0 (w42.heap[gb295]? = some (.cells #[.slice none 0 0, .slice none 0 0] 26 (0, 0))) := ⟨h8_⟩
   have n9_ : Aside0 (w.heap.size ≤ gb295) := ⟨h9_⟩
   have n10_ : Aside0 (w.heap.size ≤ gb295) := ⟨h10_⟩
   have n11_ : Aside0 (gb272 ≠ gb295) := ⟨h11_⟩
   have n12_ : Aside0 (gb295 ≠ gb272) := ⟨h12_⟩
   have n13_ : Aside0 (gb273 ≠ gb295) := ⟨h13_⟩
   have n14_ : Aside0 (gb295 ≠ gb273) := ⟨h14_⟩
   have n15_ : Aside0 (Below w.heap.size w w42) := ⟨h15_⟩
   clear BK272 BK273 HB
   clear h0_ h1_ h2_ h3_ h4_ h5_ h6_ h7_ h8_ h9_ h10_ h11_ h12_ h13_ h14_ h15_
   have HO278 := n0_
   have HO281 := n1_
   have HO284 := n2_
   have HO287 := n3_
   have HO290 := n4_
   have HO293 := n5_
   have BK272 := n6_
   have BK273 := n7_
   have BK295 := n8_
   have GW295 := n9_
   have GE295 := n10_
   have NB272_295 := n11_
   have NB295_272 := n12_
   have NB273_295 := n13_
   have NB295_273 := n14_
   have HB := n15_
   clear n0_ n1_ n2_ n3_ n4_ n5_ n6_ n7_ n8_ n9_ n10_ n11_ n12_ n13_ n14_ n15_
   have hHeld : w42.cell? ⟨gb272, 0, none⟩ = some (.slice A0_0 l0_0.length c0_0) ∧ w42.cell? ⟨gb272, 1, none⟩ = some (.slice A0_1 l0_1.length c0_1) ∧ w42.cell? ⟨gb273, 0, none⟩ = some (.slice A1_0 l1_0.length c1_0) ∧ w42.cell? ⟨gb273, 1, none⟩ = some (.slice A1_1 l1_1.length c1_1) := hS_
   obtain ⟨Ao43, co43, eo43⟩ := Kd.R_slice HO290.out
   (first | subst eo43 | (injection eo43 with f1_ f2_ f3_; have f4_ := f1_.symm; have f5_ := f3_.symm; clear f1_ f2_ f3_; subst f4_; subst f5_))
   obtain ⟨Ao45, co45, eo45⟩ := Kd.R_slice HO293.out
   (first | subst eo45 | (injection eo45 with f1_ f2_ f3_; have f4_ := f1_.symm; have f5_ := f3_.symm; clear f1_ f2_ f3_; subst f4_; subst f5_))
   refine norm_ (a' := ?_) ?_ ?_
   rotate_left
   ·
    simp only [putAll, Act.put, List.setIfInBounds_toArray, List.set_cons_zero, List.set_cons_succ]
    rfl
   refine one_ (i := 9) (N := none) #[true, true, true, true, true, true, true, true, true, true, false] rfl rfl (one_of HT_.out (by kernel_rfl)) (by decide) (fun K hK => ?_)
   have hs44 : w42.cell? ⟨gb295, 0, none⟩ = some (.slice none 0 0) := (blk_cell BK295.out 0).trans rfl
   have hfs44 := blk_frozen BK295.out 0
   have hns44_0 := NB272_295.out
   have hns44_1 := NB273_295.out
   have hms44_0 := NB295_272.out
   have hms44_1 := NB295_273.out
   have hs46 : w42.cell? ⟨gb295, 1, none⟩ = some (.slice none 0 0) := (blk_cell BK295.out 1).trans rfl
   have hfs46 := blk_frozen BK295.out 1
   have hns46_0 := NB272_295.out
   have hns46_1 := NB273_295.out
   have hms46_0 := NB295_272.out
   have hms46_1 := NB295_273.out
   refine skip_ (w1 := ?_) (by rfl) rfl ?_ ?_
   rotate_left
   ·
    go_simp
    rfl
   refine hK.out _ _ ⟨((cell_far (p := ⟨gb295, _, none⟩) NB272_295.out _).trans (((cell_far (p := ⟨gb295, _, none⟩) NB272_295.out _).trans (hHeld.1)))), ((cell_far (p := ⟨gb295, _, none⟩) NB272_295.out _).trans (((cell_far (p := ⟨gb295, _, none⟩) NB272_295.out _).trans (hHeld.2.1)))), ((cell_far (p := ⟨gb295, _, none⟩) NB273_295.out _).trans (((cell_far (p := ⟨gb295, _, none⟩) NB273_295.out _).trans (hHeld.2.2.1)))), ((cell_far (p := ⟨gb295, _, none⟩) NB273_295.out _).trans (((cell_far (p := ⟨gb295, _, none⟩) NB273_295.out _).trans (hHeld.2.2.2))))⟩ (fun hHeld => ?_)
   clear hK K
   refine pure_ (i := 10) (N := some 7) (v := ?_) (a' := ?_) #[true, true, true, true, true, true, true, true, true, true, true] rfl rfl (any_of HT_.out (by kernel_rfl)) (fun _ _ _ h => h) (Or.inl ⟨by rfl, ?_⟩) ?_ ?_
   rotate_left
   ·
    intro w'
    go_simp
    with_reducible rfl
   rotate_left
   ·
    simp only [Act.put, List.setIfInBounds_toArray, List.set_cons_zero, List.set_cons_succ, i64_w, i32_w]
    rfl
   refine done_ (done_of HT_.out (by kernel_rfl)) ?_
   have hnb47 := NB272_295.out
   have hnc47 := NB295_272.out
   have hcz48_0 : w42.cell? ⟨gb272, 0, none⟩ = some (.slice A0_0 l0_0.length c0_0) := (blk_cell BK272.out 0).trans rfl
   have hcz48_1 : w42.cell? ⟨gb272, 1, none⟩ = some (.slice A0_1 l0_1.length c0_1) := (blk_cell BK272.out 1).trans rfl
   have hfz48_0 := blk_frozen BK272.out 0
   have hfz48_1 := blk_frozen BK272.out 1
   go_upto_region 12 with (first | ((with_reducible refine gate_callee (f := 17) rfl ?_); refine goesL_ (some 36) rfl rfl Try.func17 (by kernel_rfl) rfl #[.agg #[.slice A0_0 l0_0.length c0_0, .slice A0_1 l0_1.length c0_1]] rfl (by (try simp only [List.map_toArray, List.map_cons, List.map_nil]); first | done | rfl | (simp only [List.length_drop, List.length_take]; rfl)) ?_; (with_reducible refine (laws_toArray.calls k _ _ l0_0 _ _ l0_1 t296 t299 _ ?side1 ?side2 ?side3 ?side4 A22.out).mono ?_); (case side1 => exact Kd.C_below HR0_0.out (bS3 HB.out GE272.out GE273.out GE295.out)); (case side2 => exact HC0_0.out); (case side3 => exact Kd.C_below HR0_1.out (bS3 HB.out GE272.out GE273.out GE295.out)); (case side4 => exact HC0_1.out); rintro e w49 ⟨v297, v300, rfl, ho0, ho1, hb⟩; refine ⟨_, rfl, ?_⟩; have HO298 := Aside0.mk (Kd.R_lower (Kd.R_new' (Kd.R_new' (Kd.R_new' (Kd.R_new' (Kd.R_new' (Kd.R_new' ho0 (Kd.R_lt (by (with_reducible repeat (first | apply Kd.R_alloc | apply Kd.R_drewN | apply Kd.R_drew)); exact (far2 HO278.out BK295.out)))) (Kd.R_lt (by (with_reducible repeat (first | apply Kd.R_alloc | apply Kd.R_drewN | apply Kd.R_drew)); exact (far2 HO281.out BK295.out)))) (Kd.R_lt (by (with_reducible repeat (first | apply Kd.R_alloc | apply Kd.R_drewN | apply Kd.R_drew)); exact (far2 HO284.out BK295.out)))) (Kd.R_lt (by (with_reducible repeat (first | apply Kd.R_alloc | apply Kd.R_drewN | apply Kd.R_drew)); exact (far2 HO287.out BK295.out)))) (Kd.R_lt (by (with_reducible repeat (first | apply Kd.R_alloc | apply Kd.R_drewN | apply Kd.R_drew)); exact (far2 HO290.out BK295.out)))) (Kd.R_lt (by (with_reducible repeat (first | apply Kd.R_alloc | apply Kd.R_drewN | apply Kd.R_drew)); exact (far2 HO293.out BK295.out)))) (below_size (bS3 HB.out GE272.out GE273.out GE295.out))); have HO301 := Aside0.mk (Kd.R_lower (Kd.R_new' (Kd.R_new' (Kd.R_new' (Kd.R_new' (Kd.R_new' (Kd.R_new' ho1 (Kd.R_lt (by (with_reducible repeat (first | apply Kd.R_alloc | apply Kd.R_drewN | apply Kd.R_drew)); exact (far2 HO278.out BK295.out)))) (Kd.R_lt (by (with_reducible repeat (first | apply Kd.R_alloc | apply Kd.R_drewN | apply Kd.R_drew)); exact (far2 HO281.out BK295.out)))) (Kd.R_lt (by (with_reducible repeat (first | apply Kd.R_alloc | apply Kd.R_drewN | apply Kd.R_drew)); exact (far2 HO284.out BK295.out)))) (Kd.R_lt (by (with_reducible repeat (first | apply Kd.R_alloc | apply Kd.R_drewN | apply Kd.R_drew)); exact (far2 HO287.out BK295.out)))) (Kd.R_lt (by (with_reducible repeat (first | apply Kd.R_alloc | apply Kd.R_drewN | apply Kd.R_drew)); exact (far2 HO290.out BK295.out)))) (Kd.R_lt (by (with_reducible repeat (first | apply Kd.R_alloc | apply Kd.R_drewN | apply Kd.R_drew)); exact (far2 HO293.out BK295.out)))) (below_size (bS3 HB.out GE272.out GE273.out GE295.out))); replace HO278 := Aside0.mk (Kd.R_mono (Kd.R_told (Kd.R_told (Kd.R_old (by (with_reducible repeat (first | apply Kd.R_alloc | apply Kd.R_drewN | apply Kd.R_drew)); exact (far2 HO278.out BK295.out)) hb) (Kd.R_base ho0)) (Kd.R_base ho1)) (fun _ h_ => h_.1)); replace HO281 := Aside0.mk (Kd.R_mono (Kd.R_told (Kd.R_told (Kd.R_old (by (with_reducible repeat (first | apply Kd.R_alloc | apply Kd.R_drewN | apply Kd.R_drew)); exact (far2 HO281.out BK295.out)) hb) (Kd.R_base ho0)) (Kd.R_base ho1)) (fun _ h_ => h_.1)); replace HO284 := Aside0.mk (Kd.R_mono (Kd.R_told (Kd.R_told (Kd.R_old (by (with_reducible repeat (first | apply Kd.R_alloc | apply Kd.R_drewN | apply Kd.R_drew)); exact (far2 HO284.out BK295.out)) hb) (Kd.R_base ho0)) (Kd.R_base ho1)) (fun _ h_ => h_.1)); replace HO287 := Aside0.mk (Kd.R_mono (Kd.R_told (Kd.R_told (Kd.R_old (by (with_reducible repeat (first | apply Kd.R_alloc | apply Kd.R_drewN | apply Kd.R_drew)); exact (far2 HO287.out BK295.out)) hb) (Kd.R_base ho0)) (Kd.R_base ho1)) (fun _ h_ => h_.1)); replace HO290 := Aside0.mk (Kd.R_mono (Kd.R_told (Kd.R_told (Kd.R_old (by (with_reducible repeat (first | apply Kd.R_alloc | apply Kd.R_drewN | apply Kd.R_drew)); exact (far2 HO290.out BK295.out)) hb) (Kd.R_base ho0)) (Kd.R_base ho1)) (fun _ h_ => h_.1)); replace HO293 := Aside0.mk (Kd.R_mono (Kd.R_told (Kd.R_told (Kd.R_old (by (with_reducible repeat (first | apply Kd.R_alloc | apply Kd.R_drewN | apply Kd.R_drew)); exact (far2 HO293.out BK295.out)) hb) (Kd.R_base ho0)) (Kd.R_base ho1)) (fun _ h_ => h_.1)); replace BK272 := Aside0.mk (blk_below (g := gb272) (o := .cells #[.slice A0_0 l0_0.length c0_0, .slice A0_1 l0_1.length c0_1] 24 (0, 0)) (by (with_reducible repeat (first | refine blk_drewN ?_ _ | refine blk_drew ?_ | refine blk_alloc ?_ _)); refine blk_far ?_ NB272_295.out _; (with_reducible repeat (first | refine blk_drewN ?_ _ | refine blk_drew ?_ | refine blk_alloc ?_ _)); refine blk_far ?_ NB272_295.out _; (with_reducible repeat (first | refine blk_drewN ?_ _ | refine blk_drew ?_ | refine blk_alloc ?_ _)); exact BK272.out) hb); replace BK273 := Aside0.mk (blk_below (g := gb273) (o := .cells #[.slice A1_0 l1_0.length c1_0, .slice A1_1 l1_1.length c1_1] 24 (0, 0)) (by (with_reducible repeat (first | refine blk_drewN ?_ _ | refine blk_drew ?_ | refine blk_alloc ?_ _)); refine blk_far ?_ NB273_295.out _; (with_reducible repeat (first | refine blk_drewN ?_ _ | refine blk_drew ?_ | refine blk_alloc ?_ _)); refine blk_far ?_ NB273_295.out _; (with_reducible repeat (first | refine blk_drewN ?_ _ | refine blk_drew ?_ | refine blk_alloc ?_ _)); exact BK273.out) hb); replace BK295 := Aside0.mk (blk_below (g := gb295) (o := .cells #[.slice Ao43 t288.length co43, .slice Ao45 t291.length co45] 26 (0, 0)) (by (with_reducible repeat (first | refine blk_drewN ?_ _ | refine blk_drew ?_ | refine blk_alloc ?_ _)); refine blk_put (cs := #[.slice Ao43 t288.length co43, .slice none 0 0]) ?_ 1 _ rfl; (with_reducible repeat (first | refine blk_drewN ?_ _ | refine blk_drew ?_ | refine blk_alloc ?_ _)); refine blk_put (cs := #[.slice none 0 0, .slice none 0 0]) ?_ 0 _ rfl; (with_reducible repeat (first | refine blk_drewN ?_ _ | refine blk_drew ?_ | refine blk_alloc ?_ _)); exact BK295.out) hb); replace HB := Aside0.mk (below_step (bS3 HB.out GE272.out GE273.out GE295.out) hb); (try clear hb); (try clear hb2); (try clear hk); (try clear hi); (try clear ho0); (try clear ho1)) | ((with_reducible refine gate_dst (N := 8) rfl ?_); refine box_event ?hg (N := 8) ?hd (cs := #[.slice none 0 0, .slice none 0 0]) (t := 26) ?hr ?_; (case hd => rfl); (case hg => rfl); (case hr => first | (go_simp; done) | (go_simp; rfl)); intro gb302 hg w50 hbox hb; replace HO278 := Aside0.mk (Kd.R_below (RU HO278.out) hb); replace HO281 := Aside0.mk (Kd.R_below (RU HO281.out) hb); replace HO284 := Aside0.mk (Kd.R_below (RU HO284.out) hb); replace HO287 := Aside0.mk (Kd.R_below (RU HO287.out) hb); replace HO290 := Aside0.mk (Kd.R_below (RU HO290.out) hb); replace HO293 := Aside0.mk (Kd.R_below (RU HO293.out) hb); replace HO298 := Aside0.mk (Kd.R_below (RU HO298.out) hb); replace HO301 := Aside0.mk (Kd.R_below (RU HO301.out) hb); have BK302 := Aside0.mk (hbox); have GW302 := Aside0.mk ((by rw [hg]; exact (below_size (bS3 HB.out GE272.out GE273.out GE295.out)) : w.heap.size ≤ gb302)); have GE302 := Aside0.mk ((by rw [hg]; exact (below_size (bS3 HB.out GE272.out GE273.out GE295.out)) : w.heap.size ≤ gb302)); replace HB := Aside0.mk (below_step (bS3 HB.out GE272.out GE273.out GE295.out) hb); have NB272_302 := Aside0.mk ((by rw [hg]; exact Nat.ne_of_lt (blk_lt (g := gb272) (o := .cells #[.slice A0_0 l0_0.length c0_0, .slice A0_1 l0_1.length c0_1] 24 (0, 0)) (kU BK272.out)) : gb272 ≠ gb302)); have NB302_272 := Aside0.mk ((by rw [hg]; exact Nat.ne_of_gt (blk_lt (g := gb272) (o := .cells #[.slice A0_0 l0_0.length c0_0, .slice A0_1 l0_1.length c0_1] 24 (0, 0)) (kU BK272.out)) : gb302 ≠ gb272)); replace BK272 := Aside0.mk (blk_below (g := gb272) (o := .cells #[.slice A0_0 l0_0.length c0_0, .slice A0_1 l0_1.length c0_1] 24 (0, 0)) (kU BK272.out) hb); have NB273_302 := Aside0.mk ((by rw [hg]; exact Nat.ne_of_lt (blk_lt (g := gb273) (o := .cells #[.slice A1_0 l1_0.length c1_0, .slice A1_1 l1_1.length c1_1] 24 (0, 0)) (kU BK273.out)) : gb273 ≠ gb302)); have NB302_273 := Aside0.mk ((by rw [hg]; exact Nat.ne_of_gt (blk_lt (g := gb273) (o := .cells #[.slice A1_0 l1_0.length c1_0, .slice A1_1 l1_1.length c1_1] 24 (0, 0)) (kU BK273.out)) : gb302 ≠ gb273)); replace BK273 := Aside0.mk (blk_below (g := gb273) (o := .cells #[.slice A1_0 l1_0.length c1_0, .slice A1_1 l1_1.length c1_1] 24 (0, 0)) (kU BK273.out) hb); have NB295_302 := Aside0.mk ((by rw [hg]; exact Nat.ne_of_lt (blk_lt (g := gb295) (o := .cells #[.slice Ao43 t288.length co43, .slice Ao45 t291.length co45] 26 (0, 0)) (kU BK295.out)) : gb295 ≠ gb302)); have NB302_295 := Aside0.mk ((by rw [hg]; exact Nat.ne_of_gt (blk_lt (g := gb295) (o := .cells #[.slice Ao43 t288.length co43, .slice Ao45 t291.length co45] 26 (0, 0)) (kU BK295.out)) : gb302 ≠ gb295)); replace BK295 := Aside0.mk (blk_below (g := gb295) (o := .cells #[.slice Ao43 t288.length co43, .slice Ao45 t291.length co45] 26 (0, 0)) (kU BK295.out) hb); clear hb hbox hg; obtain ⟨Ao51, co51, eo51⟩ := Kd.R_slice HO298.out; subst eo51; have hnb52 := NB302_272.out; have hnc52 := NB272_302.out; have hnb53 := NB302_273.out; have hnc53 := NB273_302.out; have hnb54 := NB302_295.out; have hnc54 := NB295_302.out; have hcz55_0 : w50.cell? ⟨gb302, 0, none⟩ = some (.slice none 0 0) := (blk_cell BK302.out 0).trans rfl; have hcz55_1 : w50.cell? ⟨gb302, 1, none⟩ = some (.slice none 0 0) := (blk_cell BK302.out 1).trans rfl; have hfz55_0 := blk_frozen BK302.out 0; have hfz55_1 := blk_frozen BK302.out 1; obtain ⟨Ao56, co56, eo56⟩ := Kd.R_slice HO301.out; subst eo56; have hnb57 := NB273_295.out; have hnc57 := NB295_273.out; have hcz58_0 : w50.cell? ⟨gb273, 0, none⟩ = some (.slice A1_0 l1_0.length c1_0) := (blk_cell BK273.out 0).trans rfl; have hcz58_1 : w50.cell? ⟨gb273, 1, none⟩ = some (.slice A1_1 l1_1.length c1_1) := (blk_cell BK273.out 1).trans rfl; have hfz58_0 := blk_frozen BK273.out 0; have hfz58_1 := blk_frozen BK273.out 1) | ((with_reducible refine gate_callee (f := 17) rfl ?_); refine goesL_ (some 38) rfl rfl Try.func17 (by kernel_rfl) rfl #[.agg #[.slice A1_0 l1_0.length c1_0, .slice A1_1 l1_1.length c1_1]] rfl (by (try simp only [List.map_toArray, List.map_cons, List.map_nil]); first | done | rfl | (simp only [List.length_drop, List.length_take]; rfl)) ?_; (with_reducible refine (laws_toArray.calls k _ _ l1_0 _ _ l1_1 t303 t306 _ ?side1 ?side2 ?side3 ?side4 A23.out).mono ?_); (case side1 => exact Kd.C_below HR1_0.out (bS4 HB.out GE272.out GE273.out GE295.out GE302.out)); (case side2 => exact HC1_0.out); (case side3 => exact Kd.C_below HR1_1.out (bS4 HB.out GE272.out GE273.out GE295.out GE302.out)); (case side4 => exact HC1_1.out); rintro e w59 ⟨v304, v307, rfl, ho0, ho1, hb⟩; refine ⟨_, rfl, ?_⟩; have HO305 := Aside0.mk (Kd.R_lower (Kd.R_new' (Kd.R_new' (Kd.R_new' (Kd.R_new' (Kd.R_new' (Kd.R_new' (Kd.R_new' (Kd.R_new' ho0 (Kd.R_lt (by (with_reducible repeat (first | apply Kd.R_alloc | apply Kd.R_drewN | apply Kd.R_drew)); exact (far2 HO278.out BK302.out)))) (Kd.R_lt (by (with_reducible repeat (first | apply Kd.R_alloc | apply Kd.R_drewN | apply Kd.R_drew)); exact (far2 HO281.out BK302.out)))) (Kd.R_lt (by (with_reducible repeat (first | apply Kd.R_alloc | apply Kd.R_drewN | apply Kd.R_drew)); exact (far2 HO284.out BK302.out)))) (Kd.R_lt (by (with_reducible repeat (first | apply Kd.R_alloc | apply Kd.R_drewN | apply Kd.R_drew)); exact (far2 HO287.out BK302.out)))) (Kd.R_lt (by (with_reducible repeat (first | apply Kd.R_alloc | apply Kd.R_drewN | apply Kd.R_drew)); exact (far2 HO290.out BK302.out)))) (Kd.R_lt (by (with_reducible repeat (first | apply Kd.R_alloc | apply Kd.R_drewN | apply Kd.R_drew)); exact (far2 HO293.out BK302.out)))) (Kd.R_lt (by (with_reducible repeat (first | apply Kd.R_alloc | apply Kd.R_drewN | apply Kd.R_drew)); exact (far2 HO298.out BK302.out)))) (Kd.R_lt (by (with_reducible repeat (first | apply Kd.R_alloc | apply Kd.R_drewN | apply Kd.R_drew)); exact (far2 HO301.out BK302.out)))) (below_size (bS4 HB.out GE272.out GE273.out GE295.out GE302.out))); have HO308 := Aside0.mk (Kd.R_lower (Kd.R_new' (Kd.R_new' (Kd.R_new' (Kd.R_new' (Kd.R_new' (Kd.R_new' (Kd.R_new' (Kd.R_new' ho1 (Kd.R_lt (by (with_reducible repeat (first | apply Kd.R_alloc | apply Kd.R_drewN | apply Kd.R_drew)); exact (far2 HO278.out BK302.out)))) (Kd.R_lt (by (with_reducible repeat (first | apply Kd.R_alloc | apply Kd.R_drewN | apply Kd.R_drew)); exact (far2 HO281.out BK302.out)))) (Kd.R_lt (by (with_reducible repeat (first | apply Kd.R_alloc | apply Kd.R_drewN | apply Kd.R_drew)); exact (far2 HO284.out BK302.out)))) (Kd.R_lt (by (with_reducible repeat (first | apply Kd.R_alloc | apply Kd.R_drewN | apply Kd.R_drew)); exact (far2 HO287.out BK302.out)))) (Kd.R_lt (by (with_reducible repeat (first | apply Kd.R_alloc | apply Kd.R_drewN | apply Kd.R_drew)); exact (far2 HO290.out BK302.out)))) (Kd.R_lt (by (with_reducible repeat (first | apply Kd.R_alloc | apply Kd.R_drewN | apply Kd.R_drew)); exact (far2 HO293.out BK302.out)))) (Kd.R_lt (by (with_reducible repeat (first | apply Kd.R_alloc | apply Kd.R_drewN | apply Kd.R_drew)); exact (far2 HO298.out BK302.out)))) (Kd.R_lt (by (with_reducible repeat (first | apply Kd.R_alloc | apply Kd.R_drewN | apply Kd.R_drew)); exact (far2 HO301.out BK302.out)))) (below_size (bS4 HB.out GE272.out GE273.out GE295.out GE302.out))); replace HO278 := Aside0.mk (Kd.R_mono (Kd.R_told (Kd.R_told (Kd.R_old (by (with_reducible repeat (first | apply Kd.R_alloc | apply Kd.R_drewN | apply Kd.R_drew)); exact (far2 HO278.out BK302.out)) hb) (Kd.R_base ho0)) (Kd.R_base ho1)) (fun _ h_ => h_.1)); replace HO281 := Aside0.mk (Kd.R_mono (Kd.R_told (Kd.R_told (Kd.R_old (by (with_reducible repeat (first | apply Kd.R_alloc | apply Kd.R_drewN | apply Kd.R_drew)); exact (far2 HO281.out BK302.out)) hb) (Kd.R_base ho0)) (Kd.R_base ho1)) (fun _ h_ => h_.1)); replace HO284 := Aside0.mk (Kd.R_mono (Kd.R_told (Kd.R_told (Kd.R_old (by (with_reducible repeat (first | apply Kd.R_alloc | apply Kd.R_drewN | apply Kd.R_drew)); exact (far2 HO284.out BK302.out)) hb) (Kd.R_base ho0)) (Kd.R_base ho1)) (fun _ h_ => h_.1)); replace HO287 := Aside0.mk (Kd.R_mono (Kd.R_told (Kd.R_told (Kd.R_old (by (with_reducible repeat (first | apply Kd.R_alloc | apply Kd.R_drewN | apply Kd.R_drew)); exact (far2 HO287.out BK302.out)) hb) (Kd.R_base ho0)) (Kd.R_base ho1)) (fun _ h_ => h_.1)); replace HO290 := Aside0.mk (Kd.R_mono (Kd.R_told (Kd.R_told (Kd.R_old (by (with_reducible repeat (first | apply Kd.R_alloc | apply Kd.R_drewN | apply Kd.R_drew)); exact (far2 HO290.out BK302.out)) hb) (Kd.R_base ho0)) (Kd.R_base ho1)) (fun _ h_ => h_.1)); replace HO293 := Aside0.mk (Kd.R_mono (Kd.R_told (Kd.R_told (Kd.R_old (by (with_reducible repeat (first | apply Kd.R_alloc | apply Kd.R_drewN | apply Kd.R_drew)); exact (far2 HO293.out BK302.out)) hb) (Kd.R_base ho0)) (Kd.R_base ho1)) (fun _ h_ => h_.1)); replace HO298 := Aside0.mk (Kd.R_mono (Kd.R_told (Kd.R_told (Kd.R_old (by (with_reducible repeat (first | apply Kd.R_alloc | apply Kd.R_drewN | apply Kd.R_drew)); exact (far2 HO298.out BK302.out)) hb) (Kd.R_base ho0)) (Kd.R_base ho1)) (fun _ h_ => h_.1)); replace HO301 := Aside0.mk (Kd.R_mono (Kd.R_told (Kd.R_told (Kd.R_old (by (with_reducible repeat (first | apply Kd.R_alloc | apply Kd.R_drewN | apply Kd.R_drew)); exact (far2 HO301.out BK302.out)) hb) (Kd.R_base ho0)) (Kd.R_base ho1)) (fun _ h_ => h_.1)); replace BK272 := Aside0.mk (blk_below (g := gb272) (o := .cells #[.slice A0_0 l0_0.length c0_0, .slice A0_1 l0_1.length c0_1] 24 (0, 0)) (by (with_reducible repeat (first | refine blk_drewN ?_ _ | refine blk_drew ?_ | refine blk_alloc ?_ _)); refine blk_far ?_ NB272_302.out _; (with_reducible repeat (first | refine blk_drewN ?_ _ | refine blk_drew ?_ | refine blk_alloc ?_ _)); refine blk_far ?_ NB272_302.out _; (with_reducible repeat (first | refine blk_drewN ?_ _ | refine blk_drew ?_ | refine blk_alloc ?_ _)); exact BK272.out) hb); replace BK273 := Aside0.mk (blk_below (g := gb273) (o := .cells #[.slice A1_0 l1_0.length c1_0, .slice A1_1 l1_1.length c1_1] 24 (0, 0)) (by (with_reducible repeat (first | refine blk_drewN ?_ _ | refine blk_drew ?_ | refine blk_alloc ?_ _)); refine blk_far ?_ NB273_302.out _; (with_reducible repeat (first | refine blk_drewN ?_ _ | refine blk_drew ?_ | refine blk_alloc ?_ _)); refine blk_far ?_ NB273_302.out _; (with_reducible repeat (first | refine blk_drewN ?_ _ | refine blk_drew ?_ | refine blk_alloc ?_ _)); exact BK273.out) hb); replace BK295 := Aside0.mk (blk_below (g := gb295) (o := .cells #[.slice Ao43 t288.length co43, .slice Ao45 t291.length co45] 26 (0, 0)) (by (with_reducible repeat (first | refine blk_drewN ?_ _ | refine blk_drew ?_ | refine blk_alloc ?_ _)); refine blk_far ?_ NB295_302.out _; (with_reducible repeat (first | refine blk_drewN ?_ _ | refine blk_drew ?_ | refine blk_alloc ?_ _)); refine blk_far ?_ NB295_302.out _; (with_reducible repeat (first | refine blk_drewN ?_ _ | refine blk_drew ?_ | refine blk_alloc ?_ _)); exact BK295.out) hb); replace BK302 := Aside0.mk (blk_below (g := gb302) (o := .cells #[.slice Ao51 t296.length co51, .slice Ao56 t299.length co56] 26 (0, 0)) (by (with_reducible repeat (first | refine blk_drewN ?_ _ | refine blk_drew ?_ | refine blk_alloc ?_ _)); refine blk_put (cs := #[.slice Ao51 t296.length co51, .slice none 0 0]) ?_ 1 _ rfl; (with_reducible repeat (first | refine blk_drewN ?_ _ | refine blk_drew ?_ | refine blk_alloc ?_ _)); refine blk_put (cs := #[.slice none 0 0, .slice none 0 0]) ?_ 0 _ rfl; (with_reducible repeat (first | refine blk_drewN ?_ _ | refine blk_drew ?_ | refine blk_alloc ?_ _)); exact BK302.out) hb); replace HB := Aside0.mk (below_step (bS4 HB.out GE272.out GE273.out GE295.out GE302.out) hb); (try clear hb); (try clear hb2); (try clear hk); (try clear hi); (try clear ho0); (try clear ho1)) | ((with_reducible refine gate_dst (N := 9) rfl ?_); refine box_event ?hg (N := 9) ?hd (cs := #[.slice none 0 0, .slice none 0 0]) (t := 26) ?hr ?_; (case hd => rfl); (case hg => rfl); (case hr => first | (go_simp; done) | (go_simp; rfl)); intro gb309 hg w60 hbox hb; replace HO278 := Aside0.mk (Kd.R_below (RU HO278.out) hb); replace HO281 := Aside0.mk (Kd.R_below (RU HO281.out) hb); replace HO284 := Aside0.mk (Kd.R_below (RU HO284.out) hb); replace HO287 := Aside0.mk (Kd.R_below (RU HO287.out) hb); replace HO290 := Aside0.mk (Kd.R_below (RU HO290.out) hb); replace HO293 := Aside0.mk (Kd.R_below (RU HO293.out) hb); replace HO298 := Aside0.mk (Kd.R_below (RU HO298.out) hb); replace HO301 := Aside0.mk (Kd.R_below (RU HO301.out) hb); replace HO305 := Aside0.mk (Kd.R_below (RU HO305.out) hb); replace HO308 := Aside0.mk (Kd.R_below (RU HO308.out) hb); have BK309 := Aside0.mk (hbox); have GW309 := Aside0.mk ((by rw [hg]; exact (below_size (bS4 HB.out GE272.out GE273.out GE295.out GE302.out)) : w.heap.size ≤ gb309)); have GE309 := Aside0.mk ((by rw [hg]; exact (below_size (bS4 HB.out GE272.out GE273.out GE295.out GE302.out)) : w.heap.size ≤ gb309)); replace HB := Aside0.mk (below_step (bS4 HB.out GE272.out GE273.out GE295.out GE302.out) hb); have NB272_309 := Aside0.mk ((by rw [hg]; exact Nat.ne_of_lt (blk_lt (g := gb272) (o := .cells #[.slice A0_0 l0_0.length c0_0, .slice A0_1 l0_1.length c0_1] 24 (0, 0)) (kU BK272.out)) : gb272 ≠ gb309)); have NB309_272 := Aside0.mk ((by rw [hg]; exact Nat.ne_of_gt (blk_lt (g := gb272) (o := .cells #[.slice A0_0 l0_0.length c0_0, .slice A0_1 l0_1.length c0_1] 24 (0, 0)) (kU BK272.out)) : gb309 ≠ gb272)); replace BK272 := Aside0.mk (blk_below (g := gb272) (o := .cells #[.slice A0_0 l0_0.length c0_0, .slice A0_1 l0_1.length c0_1] 24 (0, 0)) (kU BK272.out) hb); have NB273_309 := Aside0.mk ((by rw [hg]; exact Nat.ne_of_lt (blk_lt (g := gb273) (o := .cells #[.slice A1_0 l1_0.length c1_0, .slice A1_1 l1_1.length c1_1] 24 (0, 0)) (kU BK273.out)) : gb273 ≠ gb309)); have NB309_273 := Aside0.mk ((by rw [hg]; exact Nat.ne_of_gt (blk_lt (g := gb273) (o := .cells #[.slice A1_0 l1_0.length c1_0, .slice A1_1 l1_1.length c1_1] 24 (0, 0)) (kU BK273.out)) : gb309 ≠ gb273)); replace BK273 := Aside0.mk (blk_below (g := gb273) (o := .cells #[.slice A1_0 l1_0.length c1_0, .slice A1_1 l1_1.length c1_1] 24 (0, 0)) (kU BK273.out) hb); have NB295_309 := Aside0.mk ((by rw [hg]; exact Nat.ne_of_lt (blk_lt (g := gb295) (o := .cells #[.slice Ao43 t288.length co43, .slice Ao45 t291.length co45] 26 (0, 0)) (kU BK295.out)) : gb295 ≠ gb309)); have NB309_295 := Aside0.mk ((by rw [hg]; exact Nat.ne_of_gt (blk_lt (g := gb295) (o := .cells #[.slice Ao43 t288.length co43, .slice Ao45 t291.length co45] 26 (0, 0)) (kU BK295.out)) : gb309 ≠ gb295)); replace BK295 := Aside0.mk (blk_below (g := gb295) (o := .cells #[.slice Ao43 t288.length co43, .slice Ao45 t291.length co45] 26 (0, 0)) (kU BK295.out) hb); have NB302_309 := Aside0.mk ((by rw [hg]; exact Nat.ne_of_lt (blk_lt (g := gb302) (o := .cells #[.slice Ao51 t296.length co51, .slice Ao56 t299.length co56] 26 (0, 0)) (kU BK302.out)) : gb302 ≠ gb309)); have NB309_302 := Aside0.mk ((by rw [hg]; exact Nat.ne_of_gt (blk_lt (g := gb302) (o := .cells #[.slice Ao51 t296.length co51, .slice Ao56 t299.length co56] 26 (0, 0)) (kU BK302.out)) : gb309 ≠ gb302)); replace BK302 := Aside0.mk (blk_below (g := gb302) (o := .cells #[.slice Ao51 t296.length co51, .slice Ao56 t299.length co56] 26 (0, 0)) (kU BK302.out) hb); clear hb hbox hg; obtain ⟨Ao61, co61, eo61⟩ := Kd.R_slice HO305.out; subst eo61; have hnb62 := NB309_272.out; have hnc62 := NB272_309.out; have hnb63 := NB309_273.out; have hnc63 := NB273_309.out; have hnb64 := NB309_295.out; have hnc64 := NB295_309.out; have hnb65 := NB309_302.out; have hnc65 := NB302_309.out; have hcz66_0 : w60.cell? ⟨gb309, 0, none⟩ = some (.slice none 0 0) := (blk_cell BK309.out 0).trans rfl; have hcz66_1 : w60.cell? ⟨gb309, 1, none⟩ = some (.slice none 0 0) := (blk_cell BK309.out 1).trans rfl; have hfz66_0 := blk_frozen BK309.out 0; have hfz66_1 := blk_frozen BK309.out 1; obtain ⟨Ao67, co67, eo67⟩ := Kd.R_slice HO308.out; subst eo67; have hcz68_0 : w60.cell? ⟨gb302, 0, none⟩ = some (.slice Ao51 t296.length co51) := (blk_cell BK302.out 0).trans rfl; have hcz68_1 : w60.cell? ⟨gb302, 1, none⟩ = some (.slice Ao56 t299.length co56) := (blk_cell BK302.out 1).trans rfl; have hfz68_0 := blk_frozen BK302.out 0; have hfz68_1 := blk_frozen BK302.out 1) | ((with_reducible refine gate_callee (f := 44) rfl ?_); refine goesL_ (some 42) rfl rfl Try.func44 (by kernel_rfl) rfl #[.agg #[.slice Ao51 t296.length co51, .slice Ao56 t299.length co56], .agg #[.slice Ao61 t303.length co61, .slice Ao67 t306.length co67]] rfl (by (try simp only [List.map_toArray, List.map_cons, List.map_nil]); first | done | rfl | (simp only [List.length_drop, List.length_take]; rfl)) ?_; (with_reducible refine (impl_Copy.calls k _ _ t296 _ _ t299 _ _ t303 _ _ t306 t310 t313 t316 _ ?side1 ?side2 ?side3 ?side4 ?side5 ?side6 ?side7 ?side8 A24.out).mono ?_); (case side1 => refine (Kd.R_reads' (e := 3) (base := w.heap.size) (ok := fun k_ => ((((((((some k_ ≠ (.slice Ao56 t299.length co56 : Value).ownBlock ∧ some k_ ≠ (v277 : Value).ownBlock) ∧ some k_ ≠ (v280 : Value).ownBlock) ∧ some k_ ≠ (v283 : Value).ownBlock) ∧ some k_ ≠ (v286 : Value).ownBlock) ∧ some k_ ≠ (.slice Ao43 t288.length co43 : Value).ownBlock) ∧ some k_ ≠ (.slice Ao45 t291.length co45 : Value).ownBlock) ∧ some k_ ≠ (.slice Ao61 t303.length co61 : Value).ownBlock) ∧ some k_ ≠ (.slice Ao67 t306.length co67 : Value).ownBlock)) (n := t296.length) (c := co51) ?_).2.2; exact (by (with_reducible repeat (first | apply Kd.R_alloc | apply Kd.R_drewN | apply Kd.R_drew)); exact (far2 HO298.out BK309.out))); (case side2 => exact (Kd.R_reads' HO298.out).2.1); (case side3 => refine (Kd.R_reads' (e := 3) (base := w.heap.size) (ok := fun k_ => ((((((((some k_ ≠ (.slice Ao51 t296.length co51 : Value).ownBlock ∧ some k_ ≠ (v277 : Value).ownBlock) ∧ some k_ ≠ (v280 : Value).ownBlock) ∧ some k_ ≠ (v283 : Value).ownBlock) ∧ some k_ ≠ (v286 : Value).ownBlock) ∧ some k_ ≠ (.slice Ao43 t288.length co43 : Value).ownBlock) ∧ some k_ ≠ (.slice Ao45 t291.length co45 : Value).ownBlock) ∧ some k_ ≠ (.slice Ao61 t303.length co61 : Value).ownBlock) ∧ some k_ ≠ (.slice Ao67 t306.length co67 : Value).ownBlock)) (n := t299.length) (c := co56) ?_).2.2; exact (by (with_reducible repeat (first | apply Kd.R_alloc | apply Kd.R_drewN | apply Kd.R_drew)); exact (far2 HO301.out BK309.out))); (case side4 => exact (Kd.R_reads' HO301.out).2.1); (case side5 => refine (Kd.R_reads' (e := 3) (base := w.heap.size) (ok := fun k_ => ((((((((some k_ ≠ (.slice Ao67 t306.length co67 : Value).ownBlock ∧ some k_ ≠ (v277 : Value).ownBlock) ∧ some k_ ≠ (v280 : Value).ownBlock) ∧ some k_ ≠ (v283 : Value).ownBlock) ∧ some k_ ≠ (v286 : Value).ownBlock) ∧ some k_ ≠ (.slice Ao43 t288.length co43 : Value).ownBlock) ∧ some k_ ≠ (.slice Ao45 t291.length co45 : Value).ownBlock) ∧ some k_ ≠ (.slice Ao51 t296.length co51 : Value).ownBlock) ∧ some k_ ≠ (.slice Ao56 t299.length co56 : Value).ownBlock)) (n := t303.length) (c := co61) ?_).2.2; exact (by (with_reducible repeat (first | apply Kd.R_alloc | apply Kd.R_drewN | apply Kd.R_drew)); exact (far2 HO305.out BK309.out))); (case side6 => exact (Kd.R_reads' HO305.out).2.1); (case side7 => refine (Kd.R_reads' (e := 3) (base := w.heap.size) (ok := fun k_ => ((((((((some k_ ≠ (.slice Ao61 t303.length co61 : Value).ownBlock ∧ some k_ ≠ (v277 : Value).ownBlock) ∧ some k_ ≠ (v280 : Value).ownBlock) ∧ some k_ ≠ (v283 : Value).ownBlock) ∧ some k_ ≠ (v286 : Value).ownBlock) ∧ some k_ ≠ (.slice Ao43 t288.length co43 : Value).ownBlock) ∧ some k_ ≠ (.slice Ao45 t291.length co45 : Value).ownBlock) ∧ some k_ ≠ (.slice Ao51 t296.length co51 : Value).ownBlock) ∧ some k_ ≠ (.slice Ao56 t299.length co56 : Value).ownBlock)) (n := t306.length) (c := co67) ?_).2.2; exact (by (with_reducible repeat (first | apply Kd.R_alloc | apply Kd.R_drewN | apply Kd.R_drew)); exact (far2 HO308.out BK309.out))); (case side8 => exact (Kd.R_reads' HO308.out).2.1); rintro e w69 ⟨v311, v314, rfl, ho0, ho1, hb⟩; refine ⟨_, rfl, ?_⟩; have HO312 := Aside0.mk (Kd.R_lower (Kd.R_new' (Kd.R_new' (Kd.R_new' (Kd.R_new' (Kd.R_new' (Kd.R_new' (Kd.R_new' (Kd.R_new' (Kd.R_new' (Kd.R_new' ho0 (Kd.R_lt (by (with_reducible repeat (first | apply Kd.R_alloc | apply Kd.R_drewN | apply Kd.R_drew)); exact (far2 HO278.out BK309.out)))) (Kd.R_lt (by (with_reducible repeat (first | apply Kd.R_alloc | apply Kd.R_drewN | apply Kd.R_drew)); exact (far2 HO281.out BK309.out)))) (Kd.R_lt (by (with_reducible repeat (first | apply Kd.R_alloc | apply Kd.R_drewN | apply Kd.R_drew)); exact (far2 HO284.out BK309.out)))) (Kd.R_lt (by (with_reducible repeat (first | apply Kd.R_alloc | apply Kd.R_drewN | apply Kd.R_drew)); exact (far2 HO287.out BK309.out)))) (Kd.R_lt (by (with_reducible repeat (first | apply Kd.R_alloc | apply Kd.R_drewN | apply Kd.R_drew)); exact (far2 HO290.out BK309.out)))) (Kd.R_lt (by (with_reducible repeat (first | apply Kd.R_alloc | apply Kd.R_drewN | apply Kd.R_drew)); exact (far2 HO293.out BK309.out)))) (Kd.R_lt (by (with_reducible repeat (first | apply Kd.R_alloc | apply Kd.R_drewN | apply Kd.R_drew)); exact (far2 HO298.out BK309.out)))) (Kd.R_lt (by (with_reducible repeat (first | apply Kd.R_alloc | apply Kd.R_drewN | apply Kd.R_drew)); exact (far2 HO301.out BK309.out)))) (Kd.R_lt (by (with_reducible repeat (first | apply Kd.R_alloc | apply Kd.R_drewN | apply Kd.R_drew)); exact (far2 HO305.out BK309.out)))) (Kd.R_lt (by (with_reducible repeat (first | apply Kd.R_alloc | apply Kd.R_drewN | apply Kd.R_drew)); exact (far2 HO308.out BK309.out)))) (below_size (bS5 HB.out GE272.out GE273.out GE295.out GE302.out GE309.out))); have HO315 := Aside0.mk (Kd.R_lower (Kd.R_new' (Kd.R_new' (Kd.R_new' (Kd.R_new' (Kd.R_new' (Kd.R_new' (Kd.R_new' (Kd.R_new' (Kd.R_new' (Kd.R_new' ho1 (Kd.R_lt (by (with_reducible repeat (first | apply Kd.R_alloc | apply Kd.R_drewN | apply Kd.R_drew)); exact (far2 HO278.out BK309.out)))) (Kd.R_lt (by (with_reducible repeat (first | apply Kd.R_alloc | apply Kd.R_drewN | apply Kd.R_drew)); exact (far2 HO281.out BK309.out)))) (Kd.R_lt (by (with_reducible repeat (first | apply Kd.R_alloc | apply Kd.R_drewN | apply Kd.R_drew)); exact (far2 HO284.out BK309.out)))) (Kd.R_lt (by (with_reducible repeat (first | apply Kd.R_alloc | apply Kd.R_drewN | apply Kd.R_drew)); exact (far2 HO287.out BK309.out)))) (Kd.R_lt (by (with_reducible repeat (first | apply Kd.R_alloc | apply Kd.R_drewN | apply Kd.R_drew)); exact (far2 HO290.out BK309.out)))) (Kd.R_lt (by (with_reducible repeat (first | apply Kd.R_alloc | apply Kd.R_drewN | apply Kd.R_drew)); exact (far2 HO293.out BK309.out)))) (Kd.R_lt (by (with_reducible repeat (first | apply Kd.R_alloc | apply Kd.R_drewN | apply Kd.R_drew)); exact (far2 HO298.out BK309.out)))) (Kd.R_lt (by (with_reducible repeat (first | apply Kd.R_alloc | apply Kd.R_drewN | apply Kd.R_drew)); exact (far2 HO301.out BK309.out)))) (Kd.R_lt (by (with_reducible repeat (first | apply Kd.R_alloc | apply Kd.R_drewN | apply Kd.R_drew)); exact (far2 HO305.out BK309.out)))) (Kd.R_lt (by (with_reducible repeat (first | apply Kd.R_alloc | apply Kd.R_drewN | apply Kd.R_drew)); exact (far2 HO308.out BK309.out)))) (below_size (bS5 HB.out GE272.out GE273.out GE295.out GE302.out GE309.out))); replace HO278 := Aside0.mk (Kd.R_mono (Kd.R_told (Kd.R_told (Kd.R_old (by (with_reducible repeat (first | apply Kd.R_alloc | apply Kd.R_drewN | apply Kd.R_drew)); exact (far2 HO278.out BK309.out)) hb) (Kd.R_base ho0)) (Kd.R_base ho1)) (fun _ h_ => h_.1)); replace HO281 := Aside0.mk (Kd.R_mono (Kd.R_told (Kd.R_told (Kd.R_old (by (with_reducible repeat (first | apply Kd.R_alloc | apply Kd.R_drewN | apply Kd.R_drew)); exact (far2 HO281.out BK309.out)) hb) (Kd.R_base ho0)) (Kd.R_base ho1)) (fun _ h_ => h_.1)); replace HO284 := Aside0.mk (Kd.R_mono (Kd.R_told (Kd.R_told (Kd.R_old (by (with_reducible repeat (first | apply Kd.R_alloc | apply Kd.R_drewN | apply Kd.R_drew)); exact (far2 HO284.out BK309.out)) hb) (Kd.R_base ho0)) (Kd.R_base ho1)) (fun _ h_ => h_.1)); replace HO287 := Aside0.mk (Kd.R_mono (Kd.R_told (Kd.R_told (Kd.R_old (by (with_reducible repeat (first | apply Kd.R_alloc | apply Kd.R_drewN | apply Kd.R_drew)); exact (far2 HO287.out BK309.out)) hb) (Kd.R_base ho0)) (Kd.R_base ho1)) (fun _ h_ => h_.1)); replace HO290 := Aside0.mk (Kd.R_mono (Kd.R_told (Kd.R_told (Kd.R_old (by (with_reducible repeat (first | apply Kd.R_alloc | apply Kd.R_drewN | apply Kd.R_drew)); exact (far2 HO290.out BK309.out)) hb) (Kd.R_base ho0)) (Kd.R_base ho1)) (fun _ h_ => h_.1)); replace HO293 := Aside0.mk (Kd.R_mono (Kd.R_told (Kd.R_told (Kd.R_old (by (with_reducible repeat (first | apply Kd.R_alloc | apply Kd.R_drewN | apply Kd.R_drew)); exact (far2 HO293.out BK309.out)) hb) (Kd.R_base ho0)) (Kd.R_base ho1)) (fun _ h_ => h_.1)); replace HO298 := Aside0.mk (Kd.R_mono (Kd.R_told (Kd.R_told (Kd.R_old (by (with_reducible repeat (first | apply Kd.R_alloc | apply Kd.R_drewN | apply Kd.R_drew)); exact (far2 HO298.out BK309.out)) hb) (Kd.R_base ho0)) (Kd.R_base ho1)) (fun _ h_ => h_.1)); replace HO301 := Aside0.mk (Kd.R_mono (Kd.R_told (Kd.R_told (Kd.R_old (by (with_reducible repeat (first | apply Kd.R_alloc | apply Kd.R_drewN | apply Kd.R_drew)); exact (far2 HO301.out BK309.out)) hb) (Kd.R_base ho0)) (Kd.R_base ho1)) (fun _ h_ => h_.1)); replace HO305 := Aside0.mk (Kd.R_mono (Kd.R_told (Kd.R_told (Kd.R_old (by (with_reducible repeat (first | apply Kd.R_alloc | apply Kd.R_drewN | apply Kd.R_drew)); exact (far2 HO305.out BK309.out)) hb) (Kd.R_base ho0)) (Kd.R_base ho1)) (fun _ h_ => h_.1)); replace HO308 := Aside0.mk (Kd.R_mono (Kd.R_told (Kd.R_told (Kd.R_old (by (with_reducible repeat (first | apply Kd.R_alloc | apply Kd.R_drewN | apply Kd.R_drew)); exact (far2 HO308.out BK309.out)) hb) (Kd.R_base ho0)) (Kd.R_base ho1)) (fun _ h_ => h_.1)); replace BK272 := Aside0.mk (blk_below (g := gb272) (o := .cells #[.slice A0_0 l0_0.length c0_0, .slice A0_1 l0_1.length c0_1] 24 (0, 0)) (by (with_reducible repeat (first | refine blk_drewN ?_ _ | refine blk_drew ?_ | refine blk_alloc ?_ _)); refine blk_far ?_ NB272_309.out _; (with_reducible repeat (first | refine blk_drewN ?_ _ | refine blk_drew ?_ | refine blk_alloc ?_ _)); refine blk_far ?_ NB272_309.out _; (with_reducible repeat (first | refine blk_drewN ?_ _ | refine blk_drew ?_ | refine blk_alloc ?_ _)); exact BK272.out) hb); replace BK273 := Aside0.mk (blk_below (g := gb273) (o := .cells #[.slice A1_0 l1_0.length c1_0, .slice A1_1 l1_1.length c1_1] 24 (0, 0)) (by (with_reducible repeat (first | refine blk_drewN ?_ _ | refine blk_drew ?_ | refine blk_alloc ?_ _)); refine blk_far ?_ NB273_309.out _; (with_reducible repeat (first | refine blk_drewN ?_ _ | refine blk_drew ?_ | refine blk_alloc ?_ _)); refine blk_far ?_ NB273_309.out _; (with_reducible repeat (first | refine blk_drewN ?_ _ | refine blk_drew ?_ | refine blk_alloc ?_ _)); exact BK273.out) hb); replace BK295 := Aside0.mk (blk_below (g := gb295) (o := .cells #[.slice Ao43 t288.length co43, .slice Ao45 t291.length co45] 26 (0, 0)) (by (with_reducible repeat (first | refine blk_drewN ?_ _ | refine blk_drew ?_ | refine blk_alloc ?_ _)); refine blk_far ?_ NB295_309.out _; (with_reducible repeat (first | refine blk_drewN ?_ _ | refine blk_drew ?_ | refine blk_alloc ?_ _)); refine blk_far ?_ NB295_309.out _; (with_reducible repeat (first | refine blk_drewN ?_ _ | refine blk_drew ?_ | refine blk_alloc ?_ _)); exact BK295.out) hb); replace BK302 := Aside0.mk (blk_below (g := gb302) (o := .cells #[.slice Ao51 t296.length co51, .slice Ao56 t299.length co56] 26 (0, 0)) (by (with_reducible repeat (first | refine blk_drewN ?_ _ | refine blk_drew ?_ | refine blk_alloc ?_ _)); refine blk_far ?_ NB302_309.out _; (with_reducible repeat (first | refine blk_drewN ?_ _ | refine blk_drew ?_ | refine blk_alloc ?_ _)); refine blk_far ?_ NB302_309.out _; (with_reducible repeat (first | refine blk_drewN ?_ _ | refine blk_drew ?_ | refine blk_alloc ?_ _)); exact BK302.out) hb); replace BK309 := Aside0.mk (blk_below (g := gb309) (o := .cells #[.slice Ao61 t303.length co61, .slice Ao67 t306.length co67] 26 (0, 0)) (by (with_reducible repeat (first | refine blk_drewN ?_ _ | refine blk_drew ?_ | refine blk_alloc ?_ _)); refine blk_put (cs := #[.slice Ao61 t303.length co61, .slice none 0 0]) ?_ 1 _ rfl; (with_reducible repeat (first | refine blk_drewN ?_ _ | refine blk_drew ?_ | refine blk_alloc ?_ _)); refine blk_put (cs := #[.slice none 0 0, .slice none 0 0]) ?_ 0 _ rfl; (with_reducible repeat (first | refine blk_drewN ?_ _ | refine blk_drew ?_ | refine blk_alloc ?_ _)); exact BK309.out) hb); replace HB := Aside0.mk (below_step (bS5 HB.out GE272.out GE273.out GE295.out GE302.out GE309.out) hb); (try clear hb); (try clear hb2); (try clear hk); (try clear hi); (try clear ho0); (try clear ho1)) | ((with_reducible refine gate_dst (N := 10) rfl ?_); refine box_event ?hg (N := 10) ?hd (cs := #[.slice none 0 0, .slice none 0 0]) (t := 26) ?hr ?_; (case hd => rfl); (case hg => rfl); (case hr => first | (go_simp; done) | (go_simp; rfl)); intro gb317 hg w70 hbox hb; replace HO278 := Aside0.mk (Kd.R_below (RU HO278.out) hb); replace HO281 := Aside0.mk (Kd.R_below (RU HO281.out) hb); replace HO284 := Aside0.mk (Kd.R_below (RU HO284.out) hb); replace HO287 := Aside0.mk (Kd.R_below (RU HO287.out) hb); replace HO290 := Aside0.mk (Kd.R_below (RU HO290.out) hb); replace HO293 := Aside0.mk (Kd.R_below (RU HO293.out) hb); replace HO298 := Aside0.mk (Kd.R_below (RU HO298.out) hb); replace HO301 := Aside0.mk (Kd.R_below (RU HO301.out) hb); replace HO305 := Aside0.mk (Kd.R_below (RU HO305.out) hb); replace HO308 := Aside0.mk (Kd.R_below (RU HO308.out) hb); replace HO312 := Aside0.mk (Kd.R_below (RU HO312.out) hb); replace HO315 := Aside0.mk (Kd.R_below (RU HO315.out) hb); have BK317 := Aside0.mk (hbox); have GW317 := Aside0.mk ((by rw [hg]; exact (below_size (bS5 HB.out GE272.out GE273.out GE295.out GE302.out GE309.out)) : w.heap.size ≤ gb317)); have GE317 := Aside0.mk ((by rw [hg]; exact (below_size (bS5 HB.out GE272.out GE273.out GE295.out GE302.out GE309.out)) : w.heap.size ≤ gb317)); replace HB := Aside0.mk (below_step (bS5 HB.out GE272.out GE273.out GE295.out GE302.out GE309.out) hb); have NB272_317 := Aside0.mk ((by rw [hg]; exact Nat.ne_of_lt (blk_lt (g := gb272) (o := .cells #[.slice A0_0 l0_0.length c0_0, .slice A0_1 l0_1.length c0_1] 24 (0, 0)) (kU BK272.out)) : gb272 ≠ gb317)); have NB317_272 := Aside0.mk ((by rw [hg]; exact Nat.ne_of_gt (blk_lt (g := gb272) (o := .cells #[.slice A0_0 l0_0.length c0_0, .slice A0_1 l0_1.length c0_1] 24 (0, 0)) (kU BK272.out)) : gb317 ≠ gb272)); replace BK272 := Aside0.mk (blk_below (g := gb272) (o := .cells #[.slice A0_0 l0_0.length c0_0, .slice A0_1 l0_1.length c0_1] 24 (0, 0)) (kU BK272.out) hb); have NB273_317 := Aside0.mk ((by rw [hg]; exact Nat.ne_of_lt (blk_lt (g := gb273) (o := .cells #[.slice A1_0 l1_0.length c1_0, .slice A1_1 l1_1.length c1_1] 24 (0, 0)) (kU BK273.out)) : gb273 ≠ gb317)); have NB317_273 := Aside0.mk ((by rw [hg]; exact Nat.ne_of_gt (blk_lt (g := gb273) (o := .cells #[.slice A1_0 l1_0.length c1_0, .slice A1_1 l1_1.length c1_1] 24 (0, 0)) (kU BK273.out)) : gb317 ≠ gb273)); replace BK273 := Aside0.mk (blk_below (g := gb273) (o := .cells #[.slice A1_0 l1_0.length c1_0, .slice A1_1 l1_1.length c1_1] 24 (0, 0)) (kU BK273.out) hb); have NB295_317 := Aside0.mk ((by rw [hg]; exact Nat.ne_of_lt (blk_lt (g := gb295) (o := .cells #[.slice Ao43 t288.length co43, .slice Ao45 t291.length co45] 26 (0, 0)) (kU BK295.out)) : gb295 ≠ gb317)); have NB317_295 := Aside0.mk ((by rw [hg]; exact Nat.ne_of_gt (blk_lt (g := gb295) (o := .cells #[.slice Ao43 t288.length co43, .slice Ao45 t291.length co45] 26 (0, 0)) (kU BK295.out)) : gb317 ≠ gb295)); replace BK295 := Aside0.mk (blk_below (g := gb295) (o := .cells #[.slice Ao43 t288.length co43, .slice Ao45 t291.length co45] 26 (0, 0)) (kU BK295.out) hb); have NB302_317 := Aside0.mk ((by rw [hg]; exact Nat.ne_of_lt (blk_lt (g := gb302) (o := .cells #[.slice Ao51 t296.length co51, .slice Ao56 t299.length co56] 26 (0, 0)) (kU BK302.out)) : gb302 ≠ gb317)); have NB317_302 := Aside0.mk ((by rw [hg]; exact Nat.ne_of_gt (blk_lt (g := gb302) (o := .cells #[.slice Ao51 t296.length co51, .slice Ao56 t299.length co56] 26 (0, 0)) (kU BK302.out)) : gb317 ≠ gb302)); replace BK302 := Aside0.mk (blk_below (g := gb302) (o := .cells #[.slice Ao51 t296.length co51, .slice Ao56 t299.length co56] 26 (0, 0)) (kU BK302.out) hb); have NB309_317 := Aside0.mk ((by rw [hg]; exact Nat.ne_of_lt (blk_lt (g := gb309) (o := .cells #[.slice Ao61 t303.length co61, .slice Ao67 t306.length co67] 26 (0, 0)) (kU BK309.out)) : gb309 ≠ gb317)); have NB317_309 := Aside0.mk ((by rw [hg]; exact Nat.ne_of_gt (blk_lt (g := gb309) (o := .cells #[.slice Ao61 t303.length co61, .slice Ao67 t306.length co67] 26 (0, 0)) (kU BK309.out)) : gb317 ≠ gb309)); replace BK309 := Aside0.mk (blk_below (g := gb309) (o := .cells #[.slice Ao61 t303.length co61, .slice Ao67 t306.length co67] 26 (0, 0)) (kU BK309.out) hb); clear hb hbox hg; obtain ⟨Ao71, co71, eo71⟩ := Kd.R_slice HO312.out; subst eo71; have hnb72 := NB317_272.out; have hnc72 := NB272_317.out; have hnb73 := NB317_273.out; have hnc73 := NB273_317.out; have hnb74 := NB317_295.out; have hnc74 := NB295_317.out; have hnb75 := NB317_302.out; have hnc75 := NB302_317.out; have hnb76 := NB317_309.out; have hnc76 := NB309_317.out; have hcz77_0 : w70.cell? ⟨gb317, 0, none⟩ = some (.slice none 0 0) := (blk_cell BK317.out 0).trans rfl; have hcz77_1 : w70.cell? ⟨gb317, 1, none⟩ = some (.slice none 0 0) := (blk_cell BK317.out 1).trans rfl; have hfz77_0 := blk_frozen BK317.out 0; have hfz77_1 := blk_frozen BK317.out 1; obtain ⟨Ao78, co78, eo78⟩ := Kd.R_slice HO315.out; subst eo78))
   (try simp only [Act.put, List.setIfInBounds_toArray, List.set_cons_zero, List.set_cons_succ])
   go_cut [53] (fun v53 wc => ∃ (kq : Nat) (x53_24 : Bool), v53 = .bool x53_24 ∧ Aside0 (laws_FnExactCopy.j0 kq t294 t316 x53_24 l0_0 l0_1 l1_0 l1_1 t288 t291 t296 t299 t303 t306 t310 t313 = some r) ∧ Aside0 (kq ≤ k) ∧ Aside0 (Kd.R (Kd.int .i64) 3 wc w.heap.size (fun k_ => some k_ ≠ ((.slice Ao45 t291.length co45) : Value).ownBlock ∧ some k_ ≠ ((.slice Ao51 t296.length co51) : Value).ownBlock ∧ some k_ ≠ ((.slice Ao56 t299.length co56) : Value).ownBlock ∧ some k_ ≠ ((.slice Ao61 t303.length co61) : Value).ownBlock ∧ some k_ ≠ ((.slice Ao67 t306.length co67) : Value).ownBlock ∧ some k_ ≠ ((.slice Ao71 t310.length co71) : Value).ownBlock ∧ some k_ ≠ ((.slice Ao78 t313.length co78) : Value).ownBlock) (.slice Ao43 t288.length co43) t288) ∧ Aside0 (Kd.R (Kd.int .i64) 3 wc w.heap.size (fun k_ => some k_ ≠ ((.slice Ao43 t288.length co43) : Value).ownBlock ∧ some k_ ≠ ((.slice Ao51 t296.length co51) : Value).ownBlock ∧ some k_ ≠ ((.slice Ao56 t299.length co56) : Value).ownBlock ∧ some k_ ≠ ((.slice Ao61 t303.length co61) : Value).ownBlock ∧ some k_ ≠ ((.slice Ao67 t306.length co67) : Value).ownBlock ∧ some k_ ≠ ((.slice Ao71 t310.length co71) : Value).ownBlock ∧ some k_ ≠ ((.slice Ao78 t313.length co78) : Value).ownBlock) (.slice Ao45 t291.length co45) t291) ∧ Aside0 (Kd.R (Kd.int .i64) 3 wc w.heap.size (fun k_ => some k_ ≠ ((.slice Ao43 t288.length co43) : Value).ownBlock ∧ some k_ ≠ ((.slice Ao45 t291.length co45) : Value).ownBlock ∧ some k_ ≠ ((.slice Ao56 t299.length co56) : Value).ownBlock ∧ some k_ ≠ ((.slice Ao61 t303.length co61) : Value).ownBlock ∧ some k_ ≠ ((.slice Ao67 t306.length co67) : Value).ownBlock ∧ some k_ ≠ ((.slice Ao71 t310.length co71) : Value).ownBlock ∧ some k_ ≠ ((.slice Ao78 t313.length co78) : Value).ownBlock) (.slice Ao51 t296.length co51) t296) ∧ Aside0 (Kd.R (Kd.int .i64) 3 wc w.heap.size (fun k_ => some k_ ≠ ((.slice Ao43 t288.length co43) : Value).ownBlock ∧ some k_ ≠ ((.slice Ao45 t291.length co45) : Value).ownBlock ∧ some k_ ≠ ((.slice Ao51 t296.length co51) : Value).ownBlock ∧ some k_ ≠ ((.slice Ao61 t303.length co61) : Value).ownBlock ∧ some k_ ≠ ((.slice Ao67 t306.length co67) : Value).ownBlock ∧ some k_ ≠ ((.slice Ao71 t310.length co71) : Value).ownBlock ∧ some k_ ≠ ((.slice Ao78 t313.length co78) : Value).ownBlock) (.slice Ao56 t299.length co56) t299) ∧ Aside0 (Kd.R (Kd.int .i64) 3 wc w.heap.size (fun k_ => some k_ ≠ ((.slice Ao43 t288.length co43) : Value).ownBlock ∧ some k_ ≠ ((.slice Ao45 t291.length co45) : Value).ownBlock ∧ some k_ ≠ ((.slice Ao51 t296.length co51) : Value).ownBlock ∧ some k_ ≠ ((.slice Ao56 t299.length co56) : Value).ownBlock ∧ some k_ ≠ ((.slice Ao67 t306.length co67) : Value).ownBlock ∧ some k_ ≠ ((.slice Ao71 t310.length co71) : Value).ownBlock ∧ some k_ ≠ ((.slice Ao78 t313.length co78) : Value).ownBlock) (.slice Ao61 t303.length co61) t303) ∧ Aside0 (Kd.R (Kd.int .i64) 3 wc w.heap.size (fun k_ => some k_ ≠ ((.slice Ao43 t288.length co43) : Value).ownBlock ∧ some k_ ≠ ((.slice Ao45 t291.length co45) : Value).ownBlock ∧ some k_ ≠ ((.slice Ao51 t296.length co51) : Value).ownBlock ∧ some k_ ≠ ((.slice Ao56 t299.length co56) : Value).ownBlock ∧ some k_ ≠ ((.slice Ao61 t303.length co61) : Value).ownBlock ∧ some k_ ≠ ((.slice Ao71 t310.length co71) : Value).ownBlock ∧ some k_ ≠ ((.slice Ao78 t313.length co78) : Value).ownBlock) (.slice Ao67 t306.length co67) t306) ∧ Aside0 (Kd.R (Kd.int .i64) 3 wc w.heap.size (fun k_ => some k_ ≠ ((.slice Ao43 t288.length co43) : Value).ownBlock ∧ some k_ ≠ ((.slice Ao45 t291.length co45) : Value).ownBlock ∧ some k_ ≠ ((.slice Ao51 t296.length co51) : Value).ownBlock ∧ some k_ ≠ ((.slice Ao56 t299.length co56) : Value).ownBlock ∧ some k_ ≠ ((.slice Ao61 t303.length co61) : Value).ownBlock ∧ some k_ ≠ ((.slice Ao67 t306.length co67) : Value).ownBlock ∧ some k_ ≠ ((.slice Ao78 t313.length co78) : Value).ownBlock) (.slice Ao71 t310.length co71) t310) ∧ Aside0 (Kd.R (Kd.int .i64) 3 wc w.heap.size (fun k_ => some k_ ≠ ((.slice Ao43 t288.length co43) : Value).ownBlock ∧ some k_ ≠ ((.slice Ao45 t291.length co45) : Value).ownBlock ∧ some k_ ≠ ((.slice Ao51 t296.length co51) : Value).ownBlock ∧ some k_ ≠ ((.slice Ao56 t299.length co56) : Value).ownBlock ∧ some k_ ≠ ((.slice Ao61 t303.length co61) : Value).ownBlock ∧ some k_ ≠ ((.slice Ao67 t306.length co67) : Value).ownBlock ∧ some k_ ≠ ((.slice Ao71 t310.length co71) : Value).ownBlock) (.slice Ao78 t313.length co78) t313) ∧ Aside0 (wc.heap[gb272]? = some (.cells #[(.slice A0_0 l0_0.length c0_0), (.slice A0_1 l0_1.length c0_1)] 24 (0, 0))) ∧ Aside0 (wc.heap[gb273]? = some (.cells #[(.slice A1_0 l1_0.length c1_0), (.slice A1_1 l1_1.length c1_1)] 24 (0, 0))) ∧ Aside0 (wc.heap[gb295]? = some (.cells #[(.slice Ao43 t288.length co43), (.slice Ao45 t291.length co45)] 26 (0, 0))) ∧ Aside0 (wc.heap[gb302]? = some (.cells #[(.slice Ao51 t296.length co51), (.slice Ao56 t299.length co56)] 26 (0, 0))) ∧ Aside0 (wc.heap[gb309]? = some (.cells #[(.slice Ao61 t303.length co61), (.slice Ao67 t306.length co67)] 26 (0, 0))) ∧ Aside0 (wc.heap[gb317]? = some (.cells #[(.slice Ao71 t310.length co71), (.slice Ao78 t313.length co78)] 26 (0, 0))) ∧ Aside0 (Below w.heap.size w wc))
   case first =>
    have H := HC25.out
    clear HC25
    replace H := Option.bind_eq_some_iff.mp H
    obtain ⟨t318, A790, H⟩ := H
    replace H : (if t318 = true then (laws_FnExactCopy.j0 k t294 t316 (t316 != t294) l0_0 l0_1 l1_0 l1_1 t288 t291 t296 t299 t303 t306 t310 t313) else (laws_FnExactCopy.j0 k t294 t316 true l0_0 l0_1 l1_0 l1_1 t288 t291 t296 t299 t303 t306 t310 t313)) = some r := H
    have A79 := Aside0.mk A790
    clear A790
    by_cases c80 : t318 = true
    ·
     subst c80
     have H1 : (laws_FnExactCopy.j0 k t294 t316 (t316 != t294) l0_0 l0_1 l1_0 l1_1 t288 t291 t296 t299 t303 t306 t310 t313) = some r := by rw [if_pos rfl] at H; exact H
     clear H
     have H := H1
     clear H1
     have H' := Aside0.mk H
     clear H
     have hnb81 := NB317_272.out
     have hnc81 := NB272_317.out
     have hnb82 := NB317_273.out
     have hnc82 := NB273_317.out
     have hnb83 := NB317_295.out
     have hnc83 := NB295_317.out
     have hnb84 := NB317_302.out
     have hnc84 := NB302_317.out
     have hnb85 := NB317_309.out
     have hnc85 := NB309_317.out
     have hcz86_0 : w70.cell? ⟨gb317, 0, none⟩ = some (.slice none 0 0) := (blk_cell BK317.out 0).trans rfl
     have hcz86_1 : w70.cell? ⟨gb317, 1, none⟩ = some (.slice none 0 0) := (blk_cell BK317.out 1).trans rfl
     have hfz86_0 := blk_frozen BK317.out 0
     have hfz86_1 := blk_frozen BK317.out 1
     have hnb87 := NB295_272.out
     have hnc87 := NB272_295.out
     have hnb88 := NB295_273.out
     have hnc88 := NB273_295.out
     have hnb89 := NB295_302.out
     have hnc89 := NB302_295.out
     have hnb90 := NB295_309.out
     have hnc90 := NB309_295.out
     have hcz91_0 : w70.cell? ⟨gb295, 0, none⟩ = some (.slice Ao43 t288.length co43) := (blk_cell BK295.out 0).trans rfl
     have hcz91_1 : w70.cell? ⟨gb295, 1, none⟩ = some (.slice Ao45 t291.length co45) := (blk_cell BK295.out 1).trans rfl
     have hfz91_0 := blk_frozen BK295.out 0
     have hfz91_1 := blk_frozen BK295.out 1
     go_wp2_with (first | ((with_reducible refine gate_callee (f := 19) rfl ?_); refine goesL_ (some 47) rfl rfl Try.func19 (by kernel_rfl) rfl #[.agg #[.slice Ao71 t310.length co71, .slice Ao78 t313.length co78], .agg #[.slice Ao43 t288.length co43, .slice Ao45 t291.length co45]] rfl (by (try simp only [List.map_toArray, List.map_cons, List.map_nil]); first | done | rfl | (simp only [List.length_drop, List.length_take]; rfl)) ?_; (with_reducible refine (laws_eqArray.calls k _ _ t310 _ _ t313 _ _ t288 _ _ t291 true _ ?side1 ?side2 ?side3 ?side4 ?side5 ?side6 ?side7 ?side8 A79.out).mono ?_); (case side1 => refine (Kd.R_reads' (e := 3) (base := w.heap.size) (ok := fun k_ => ((((((((((some k_ ≠ (.slice Ao78 t313.length co78 : Value).ownBlock ∧ some k_ ≠ (v277 : Value).ownBlock) ∧ some k_ ≠ (v280 : Value).ownBlock) ∧ some k_ ≠ (v283 : Value).ownBlock) ∧ some k_ ≠ (v286 : Value).ownBlock) ∧ some k_ ≠ (.slice Ao43 t288.length co43 : Value).ownBlock) ∧ some k_ ≠ (.slice Ao45 t291.length co45 : Value).ownBlock) ∧ some k_ ≠ (.slice Ao51 t296.length co51 : Value).ownBlock) ∧ some k_ ≠ (.slice Ao56 t299.length co56 : Value).ownBlock) ∧ some k_ ≠ (.slice Ao61 t303.length co61 : Value).ownBlock) ∧ some k_ ≠ (.slice Ao67 t306.length co67 : Value).ownBlock)) (n := t310.length) (c := co71) ?_).2.2; exact (by (with_reducible repeat (first | apply Kd.R_alloc | apply Kd.R_drewN | apply Kd.R_drew)); exact (far2 HO312.out BK317.out))); (case side2 => exact (Kd.R_reads' HO312.out).2.1); (case side3 => refine (Kd.R_reads' (e := 3) (base := w.heap.size) (ok := fun k_ => ((((((((((some k_ ≠ (.slice Ao71 t310.length co71 : Value).ownBlock ∧ some k_ ≠ (v277 : Value).ownBlock) ∧ some k_ ≠ (v280 : Value).ownBlock) ∧ some k_ ≠ (v283 : Value).ownBlock) ∧ some k_ ≠ (v286 : Value).ownBlock) ∧ some k_ ≠ (.slice Ao43 t288.length co43 : Value).ownBlock) ∧ some k_ ≠ (.slice Ao45 t291.length co45 : Value).ownBlock) ∧ some k_ ≠ (.slice Ao51 t296.length co51 : Value).ownBlock) ∧ some k_ ≠ (.slice Ao56 t299.length co56 : Value).ownBlock) ∧ some k_ ≠ (.slice Ao61 t303.length co61 : Value).ownBlock) ∧ some k_ ≠ (.slice Ao67 t306.length co67 : Value).ownBlock)) (n := t313.length) (c := co78) ?_).2.2; exact (by (with_reducible repeat (first | apply Kd.R_alloc | apply Kd.R_drewN | apply Kd.R_drew)); exact (far2 HO315.out BK317.out))); (case side4 => exact (Kd.R_reads' HO315.out).2.1); (case side5 => refine (Kd.R_reads' (e := 3) (base := w.heap.size) (ok := fun k_ => (((((((some k_ ≠ (v277 : Value).ownBlock ∧ (some k_ ≠ (v280 : Value).ownBlock ∧ (some k_ ≠ (v283 : Value).ownBlock ∧ (some k_ ≠ (v286 : Value).ownBlock ∧ some k_ ≠ (.slice Ao45 t291.length co45 : Value).ownBlock)))) ∧ some k_ ≠ (.slice Ao51 t296.length co51 : Value).ownBlock) ∧ some k_ ≠ (.slice Ao56 t299.length co56 : Value).ownBlock) ∧ some k_ ≠ (.slice Ao61 t303.length co61 : Value).ownBlock) ∧ some k_ ≠ (.slice Ao67 t306.length co67 : Value).ownBlock) ∧ some k_ ≠ (.slice Ao71 t310.length co71 : Value).ownBlock) ∧ some k_ ≠ (.slice Ao78 t313.length co78 : Value).ownBlock)) (n := t288.length) (c := co43) ?_).2.2; exact (by (with_reducible repeat (first | apply Kd.R_alloc | apply Kd.R_drewN | apply Kd.R_drew)); exact (far2 HO290.out BK317.out))); (case side6 => exact (Kd.R_reads' HO290.out).2.1); (case side7 => refine (Kd.R_reads' (e := 3) (base := w.heap.size) (ok := fun k_ => (((((((some k_ ≠ (v277 : Value).ownBlock ∧ (some k_ ≠ (v280 : Value).ownBlock ∧ (some k_ ≠ (v283 : Value).ownBlock ∧ (some k_ ≠ (v286 : Value).ownBlock ∧ some k_ ≠ (.slice Ao43 t288.length co43 : Value).ownBlock)))) ∧ some k_ ≠ (.slice Ao51 t296.length co51 : Value).ownBlock) ∧ some k_ ≠ (.slice Ao56 t299.length co56 : Value).ownBlock) ∧ some k_ ≠ (.slice Ao61 t303.length co61 : Value).ownBlock) ∧ some k_ ≠ (.slice Ao67 t306.length co67 : Value).ownBlock) ∧ some k_ ≠ (.slice Ao71 t310.length co71 : Value).ownBlock) ∧ some k_ ≠ (.slice Ao78 t313.length co78 : Value).ownBlock)) (n := t291.length) (c := co45) ?_).2.2; exact (by (with_reducible repeat (first | apply Kd.R_alloc | apply Kd.R_drewN | apply Kd.R_drew)); exact (far2 HO293.out BK317.out))); (case side8 => exact (Kd.R_reads' HO293.out).2.1); rintro e w92 ⟨rfl, hb⟩; refine ⟨_, rfl, ?_⟩; replace HO278 := Aside0.mk (Kd.R_below (by (with_reducible repeat (first | apply Kd.R_alloc | apply Kd.R_drewN | apply Kd.R_drew)); exact (far2 HO278.out BK317.out)) hb); replace HO281 := Aside0.mk (Kd.R_below (by (with_reducible repeat (first | apply Kd.R_alloc | apply Kd.R_drewN | apply Kd.R_drew)); exact (far2 HO281.out BK317.out)) hb); replace HO284 := Aside0.mk (Kd.R_below (by (with_reducible repeat (first | apply Kd.R_alloc | apply Kd.R_drewN | apply Kd.R_drew)); exact (far2 HO284.out BK317.out)) hb); replace HO287 := Aside0.mk (Kd.R_below (by (with_reducible repeat (first | apply Kd.R_alloc | apply Kd.R_drewN | apply Kd.R_drew)); exact (far2 HO287.out BK317.out)) hb); replace HO290 := Aside0.mk (Kd.R_below (by (with_reducible repeat (first | apply Kd.R_alloc | apply Kd.R_drewN | apply Kd.R_drew)); exact (far2 HO290.out BK317.out)) hb); replace HO293 := Aside0.mk (Kd.R_below (by (with_reducible repeat (first | apply Kd.R_alloc | apply Kd.R_drewN | apply Kd.R_drew)); exact (far2 HO293.out BK317.out)) hb); replace HO298 := Aside0.mk (Kd.R_below (by (with_reducible repeat (first | apply Kd.R_alloc | apply Kd.R_drewN | apply Kd.R_drew)); exact (far2 HO298.out BK317.out)) hb); replace HO301 := Aside0.mk (Kd.R_below (by (with_reducible repeat (first | apply Kd.R_alloc | apply Kd.R_drewN | apply Kd.R_drew)); exact (far2 HO301.out BK317.out)) hb); replace HO305 := Aside0.mk (Kd.R_below (by (with_reducible repeat (first | apply Kd.R_alloc | apply Kd.R_drewN | apply Kd.R_drew)); exact (far2 HO305.out BK317.out)) hb); replace HO308 := Aside0.mk (Kd.R_below (by (with_reducible repeat (first | apply Kd.R_alloc | apply Kd.R_drewN | apply Kd.R_drew)); exact (far2 HO308.out BK317.out)) hb); replace HO312 := Aside0.mk (Kd.R_below (by (with_reducible repeat (first | apply Kd.R_alloc | apply Kd.R_drewN | apply Kd.R_drew)); exact (far2 HO312.out BK317.out)) hb); replace HO315 := Aside0.mk (Kd.R_below (by (with_reducible repeat (first | apply Kd.R_alloc | apply Kd.R_drewN | apply Kd.R_drew)); exact (far2 HO315.out BK317.out)) hb); replace BK272 := Aside0.mk (blk_below (g := gb272) (o := .cells #[.slice A0_0 l0_0.length c0_0, .slice A0_1 l0_1.length c0_1] 24 (0, 0)) (by (with_reducible repeat (first | refine blk_drewN ?_ _ | refine blk_drew ?_ | refine blk_alloc ?_ _)); refine blk_far ?_ NB272_317.out _; (with_reducible repeat (first | refine blk_drewN ?_ _ | refine blk_drew ?_ | refine blk_alloc ?_ _)); refine blk_far ?_ NB272_317.out _; (with_reducible repeat (first | refine blk_drewN ?_ _ | refine blk_drew ?_ | refine blk_alloc ?_ _)); exact BK272.out) hb); replace BK273 := Aside0.mk (blk_below (g := gb273) (o := .cells #[.slice A1_0 l1_0.length c1_0, .slice A1_1 l1_1.length c1_1] 24 (0, 0)) (by (with_reducible repeat (first | refine blk_drewN ?_ _ | refine blk_drew ?_ | refine blk_alloc ?_ _)); refine blk_far ?_ NB273_317.out _; (with_reducible repeat (first | refine blk_drewN ?_ _ | refine blk_drew ?_ | refine blk_alloc ?_ _)); refine blk_far ?_ NB273_317.out _; (with_reducible repeat (first | refine blk_drewN ?_ _ | refine blk_drew ?_ | refine blk_alloc ?_ _)); exact BK273.out) hb); replace BK295 := Aside0.mk (blk_below (g := gb295) (o := .cells #[.slice Ao43 t288.length co43, .slice Ao45 t291.length co45] 26 (0, 0)) (by (with_reducible repeat (first | refine blk_drewN ?_ _ | refine blk_drew ?_ | refine blk_alloc ?_ _)); refine blk_far ?_ NB295_317.out _; (with_reducible repeat (first | refine blk_drewN ?_ _ | refine blk_drew ?_ | refine blk_alloc ?_ _)); refine blk_far ?_ NB295_317.out _; (with_reducible repeat (first | refine blk_drewN ?_ _ | refine blk_drew ?_ | refine blk_alloc ?_ _)); exact BK295.out) hb); replace BK302 := Aside0.mk (blk_below (g := gb302) (o := .cells #[.slice Ao51 t296.length co51, .slice Ao56 t299.length co56] 26 (0, 0)) (by (with_reducible repeat (first | refine blk_drewN ?_ _ | refine blk_drew ?_ | refine blk_alloc ?_ _)); refine blk_far ?_ NB302_317.out _; (with_reducible repeat (first | refine blk_drewN ?_ _ | refine blk_drew ?_ | refine blk_alloc ?_ _)); refine blk_far ?_ NB302_317.out _; (with_reducible repeat (first | refine blk_drewN ?_ _ | refine blk_drew ?_ | refine blk_alloc ?_ _)); exact BK302.out) hb); replace BK309 := Aside0.mk (blk_below (g := gb309) (o := .cells #[.slice Ao61 t303.length co61, .slice Ao67 t306.length co67] 26 (0, 0)) (by (with_reducible repeat (first | refine blk_drewN ?_ _ | refine blk_drew ?_ | refine blk_alloc ?_ _)); refine blk_far ?_ NB309_317.out _; (with_reducible repeat (first | refine blk_drewN ?_ _ | refine blk_drew ?_ | refine blk_alloc ?_ _)); refine blk_far ?_ NB309_317.out _; (with_reducible repeat (first | refine blk_drewN ?_ _ | refine blk_drew ?_ | refine blk_alloc ?_ _)); exact BK309.out) hb); replace BK317 := Aside0.mk (blk_below (g := gb317) (o := .cells #[.slice Ao71 t310.length co71, .slice Ao78 t313.length co78] 26 (0, 0)) (by (with_reducible repeat (first | refine blk_drewN ?_ _ | refine blk_drew ?_ | refine blk_alloc ?_ _)); refine blk_put (cs := #[.slice Ao71 t310.length co71, .slice none 0 0]) ?_ 1 _ rfl; (with_reducible repeat (first | refine blk_drewN ?_ _ | refine blk_drew ?_ | refine blk_alloc ?_ _)); refine blk_put (cs := #[.slice none 0 0, .slice none 0 0]) ?_ 0 _ rfl; (with_reducible repeat (first | refine blk_drewN ?_ _ | refine blk_drew ?_ | refine blk_alloc ?_ _)); exact BK317.out) hb); replace HB := Aside0.mk (below_step (bS6 HB.out GE272.out GE273.out GE295.out GE302.out GE309.out GE317.out) hb); (try clear hb); (try clear hb2); (try clear hk); (try clear hi)))
     go_meet
     case rel => exact ⟨_, ((t316 != t294)), (by first | rfl | (simp; done) | (simp [*]; done)), H', ⟨by first | omega | exact Nat.le_refl _⟩, ⟨by (with_reducible repeat (first | apply Kd.R_alloc | apply Kd.R_drewN | apply Kd.R_drew)); exact Kd.R_mono HO290.out (fun _ hk => ⟨hk.1.1.1.1.1.1.2.2.2.2, ⟨hk.1.1.1.1.1.2, ⟨hk.1.1.1.1.2, ⟨hk.1.1.1.2, ⟨hk.1.1.2, ⟨hk.1.2, hk.2⟩⟩⟩⟩⟩⟩)⟩, ⟨by (with_reducible repeat (first | apply Kd.R_alloc | apply Kd.R_drewN | apply Kd.R_drew)); exact Kd.R_mono HO293.out (fun _ hk => ⟨hk.1.1.1.1.1.1.2.2.2.2, ⟨hk.1.1.1.1.1.2, ⟨hk.1.1.1.1.2, ⟨hk.1.1.1.2, ⟨hk.1.1.2, ⟨hk.1.2, hk.2⟩⟩⟩⟩⟩⟩)⟩, ⟨by (with_reducible repeat (first | apply Kd.R_alloc | apply Kd.R_drewN | apply Kd.R_drew)); exact Kd.R_mono HO298.out (fun _ hk => ⟨hk.1.1.1.1.1.2, ⟨hk.1.1.1.1.2, ⟨hk.1.1.1.1.1.1.1.1.1.1, ⟨hk.1.1.1.2, ⟨hk.1.1.2, ⟨hk.1.2, hk.2⟩⟩⟩⟩⟩⟩)⟩, ⟨by (with_reducible repeat (first | apply Kd.R_alloc | apply Kd.R_drewN | apply Kd.R_drew)); exact Kd.R_mono HO301.out (fun _ hk => ⟨hk.1.1.1.1.1.2, ⟨hk.1.1.1.1.2, ⟨hk.1.1.1.1.1.1.1.1.1.1, ⟨hk.1.1.1.2, ⟨hk.1.1.2, ⟨hk.1.2, hk.2⟩⟩⟩⟩⟩⟩)⟩, ⟨by (with_reducible repeat (first | apply Kd.R_alloc | apply Kd.R_drewN | apply Kd.R_drew)); exact Kd.R_mono HO305.out (fun _ hk => ⟨hk.1.1.1.1.1.2, ⟨hk.1.1.1.1.2, ⟨hk.1.1.1.2, ⟨hk.1.1.2, ⟨hk.1.1.1.1.1.1.1.1.1.1, ⟨hk.1.2, hk.2⟩⟩⟩⟩⟩⟩)⟩, ⟨by (with_reducible repeat (first | apply Kd.R_alloc | apply Kd.R_drewN | apply Kd.R_drew)); exact Kd.R_mono HO308.out (fun _ hk => ⟨hk.1.1.1.1.1.2, ⟨hk.1.1.1.1.2, ⟨hk.1.1.1.2, ⟨hk.1.1.2, ⟨hk.1.1.1.1.1.1.1.1.1.1, ⟨hk.1.2, hk.2⟩⟩⟩⟩⟩⟩)⟩, ⟨by (with_reducible repeat (first | apply Kd.R_alloc | apply Kd.R_drewN | apply Kd.R_drew)); exact Kd.R_mono HO312.out (fun _ hk => ⟨hk.1.1.1.1.1.2, ⟨hk.1.1.1.1.2, ⟨hk.1.1.1.2, ⟨hk.1.1.2, ⟨hk.1.2, ⟨hk.2, hk.1.1.1.1.1.1.1.1.1.1⟩⟩⟩⟩⟩⟩)⟩, ⟨by (with_reducible repeat (first | apply Kd.R_alloc | apply Kd.R_drewN | apply Kd.R_drew)); exact Kd.R_mono HO315.out (fun _ hk => ⟨hk.1.1.1.1.1.2, ⟨hk.1.1.1.1.2, ⟨hk.1.1.1.2, ⟨hk.1.1.2, ⟨hk.1.2, ⟨hk.2, hk.1.1.1.1.1.1.1.1.1.1⟩⟩⟩⟩⟩⟩)⟩, ⟨by (with_reducible repeat (first | refine blk_drewN ?_ _ | refine blk_drew ?_ | refine blk_alloc ?_ _)); exact BK272.out⟩, ⟨by (with_reducible repeat (first | refine blk_drewN ?_ _ | refine blk_drew ?_ | refine blk_alloc ?_ _)); exact BK273.out⟩, ⟨by (with_reducible repeat (first | refine blk_drewN ?_ _ | refine blk_drew ?_ | refine blk_alloc ?_ _)); exact BK295.out⟩, ⟨by (with_reducible repeat (first | refine blk_drewN ?_ _ | refine blk_drew ?_ | refine blk_alloc ?_ _)); exact BK302.out⟩, ⟨by (with_reducible repeat (first | refine blk_drewN ?_ _ | refine blk_drew ?_ | refine blk_alloc ?_ _)); exact BK309.out⟩, ⟨by (with_reducible repeat (first | refine blk_drewN ?_ _ | refine blk_drew ?_ | refine blk_alloc ?_ _)); exact BK317.out⟩, ⟨by exact bS6 HB.out GE272.out GE273.out GE295.out GE302.out GE309.out GE317.out⟩⟩
    ·
     replace c80 := Bool.eq_false_iff.mpr c80
     subst c80
     have H1 : (laws_FnExactCopy.j0 k t294 t316 true l0_0 l0_1 l1_0 l1_1 t288 t291 t296 t299 t303 t306 t310 t313) = some r := by rw [if_neg (show ¬ (false = true) by decide)] at H; exact H
     clear H
     have H := H1
     clear H1
     have hz_ : ∀ kz, laws_FnExactCopy.j0 kz t294 t316 true l0_0 l0_1 l1_0 l1_1 t288 t291 t296 t299 t303 t306 t310 t313 = some r → r = false := by intro kz hz; cases kz with | zero => exact absurd hz (by simp [laws_FnExactCopy.j0]) | succ kz => simp only [laws_FnExactCopy.j0] at hz; first | (rw [if_pos rfl] at hz; exact (Option.some.inj hz).symm) | (simp at hz; exact hz.symm) | (simp at hz; exact hz)
     exact absurd (HT.out.symm.trans (hz_ _ H)) (by decide)
   case rest =>
    clear HC25
    try clear c1
    try clear p2
    try clear c4
    try clear c5
    try clear c6
    try clear c7
    try clear c8
    try clear c9
    try clear c17
    try clear c19
    try clear c43
    try clear c44
    try clear c47
    try clear c52
    try clear c53
    try clear c54
    try clear c57
    try clear c62
    try clear c63
    try clear c64
    try clear c65
    try clear c72
    try clear c73
    try clear c74
    try clear c75
    try clear c76
    try clear c80
    try clear c81
    try clear c82
    try clear c83
    try clear c84
    try clear c85
    try clear c87
    try clear c88
    try clear c89
    try clear c90
    try clear hcz48_0
    try clear hcz48_1
    try clear hcz55_0
    try clear hcz55_1
    try clear hcz58_0
    try clear hcz58_1
    try clear hcz66_0
    try clear hcz66_1
    try clear hcz68_0
    try clear hcz68_1
    try clear hcz77_0
    try clear hcz77_1
    try clear hcz86_0
    try clear hcz86_1
    try clear hcz91_0
    try clear hcz91_1
    try clear hfz48_0
    try clear hfz48_1
    try clear hfz55_0
    try clear hfz55_1
    try clear hfz58_0
    try clear hfz58_1
    try clear hfz66_0
    try clear hfz66_1
    try clear hfz68_0
    try clear hfz68_1
    try clear hfz77_0
    try clear hfz77_1
    try clear hfz86_0
    try clear hfz86_1
    try clear hfz91_0
    try clear hfz91_1
    obtain ⟨kq, x53_24, rfl, HA, HJ24, HO_296000, HO_296001, HO_303000, HO_303001, HO_310000, HO_310001, HO_318000, HO_318001, BK272, BK273, BK295, BK302, BK309, BK317, HB⟩ := hcut
    cases kq with
    | zero => exact absurd HA.out (by simp [laws_FnExactCopy.j0])
    | succ kj24 =>
     have H := HA.out
     clear HA
     simp only [laws_FnExactCopy.j0] at H
     by_cases c93 : x53_24 = true
     ·
      subst c93
      have H1 : (some false) = some r := by rw [if_pos rfl] at H; exact H
      clear H
      have H := H1
      clear H1
      obtain rfl := Option.some.inj H
      exact absurd HT.out (by decide)
     ·
      replace c93 := Bool.eq_false_iff.mpr c93
      subst c93
      have H1 : ((laws_toArray.f kj24 l0_0 l0_1).bind fun bt319 => ((laws_eqArray.f kj24 t296 t299 bt319.1 bt319.2).bind fun t325 => (if t325 = true then ((laws_toArray.f kj24 l1_0 l1_1).bind fun bt326 => ((laws_eqArray.f kj24 t303 t306 bt326.1 bt326.2).bind fun t332 => (if t332 = true then ((laws_markArray.f kj24 t296 t299 1).bind fun bt333 => ((laws_markArray.f kj24 t303 t306 bt333.1).bind fun bt336 => (if bt336.1 < 0 then (laws_FnExactCopy.j1 kj24 t294 true l0_0 l0_1 l1_0 l1_1 t288 t291 t310 t313) else ((laws_eqArray.f kj24 t310 t313 t288 t291).bind fun t339 => (if t339 = true then (laws_FnExactCopy.j1 kj24 t294 (t316 != t294) l0_0 l0_1 l1_0 l1_1 t288 t291 t310 t313) else (laws_FnExactCopy.j1 kj24 t294 true l0_0 l0_1 l1_0 l1_1 t288 t291 t310 t313)))))) else (some false)))) else (some false)))) = some r := by rw [if_neg (show ¬ (false = true) by decide)] at H; exact H
      clear H
      have H := H1
      clear H1
      replace H := Option.bind_eq_some_iff.mp H
      obtain ⟨⟨t319, t322⟩, A940, H⟩ := H
      replace H : ((laws_eqArray.f kj24 t296 t299 t319 t322).bind fun t325 => (if t325 = true then ((laws_toArray.f kj24 l1_0 l1_1).bind fun bt326 => ((laws_eqArray.f kj24 t303 t306 bt326.1 bt326.2).bind fun t332 => (if t332 = true then ((laws_markArray.f kj24 t296 t299 1).bind fun bt333 => ((laws_markArray.f kj24 t303 t306 bt333.1).bind fun bt336 => (if bt336.1 < 0 then (laws_FnExactCopy.j1 kj24 t294 true l0_0 l0_1 l1_0 l1_1 t288 t291 t310 t313) else ((laws_eqArray.f kj24 t310 t313 t288 t291).bind fun t339 => (if t339 = true then (laws_FnExactCopy.j1 kj24 t294 (t316 != t294) l0_0 l0_1 l1_0 l1_1 t288 t291 t310 t313) else (laws_FnExactCopy.j1 kj24 t294 true l0_0 l0_1 l1_0 l1_1 t288 t291 t310 t313)))))) else (some false)))) else (some false))) = some r := H
      have A94 := Aside0.mk A940
      clear A940
      replace H := Option.bind_eq_some_iff.mp H
      obtain ⟨t325, A950, H⟩ := H
      replace H : (if t325 = true then ((laws_toArray.f kj24 l1_0 l1_1).bind fun bt326 => ((laws_eqArray.f kj24 t303 t306 bt326.1 bt326.2).bind fun t332 => (if t332 = true then ((laws_markArray.f kj24 t296 t299 1).bind fun bt333 => ((laws_markArray.f kj24 t303 t306 bt333.1).bind fun bt336 => (if bt336.1 < 0 then (laws_FnExactCopy.j1 kj24 t294 true l0_0 l0_1 l1_0 l1_1 t288 t291 t310 t313) else ((laws_eqArray.f kj24 t310 t313 t288 t291).bind fun t339 => (if t339 = true then (laws_FnExactCopy.j1 kj24 t294 (t316 != t294) l0_0 l0_1 l1_0 l1_1 t288 t291 t310 t313) else (laws_FnExactCopy.j1 kj24 t294 true l0_0 l0_1 l1_0 l1_1 t288 t291 t310 t313)))))) else (some false)))) else (some false)) = some r := H
      have A95 := Aside0.mk A950
      clear A950
      by_cases c96 : t325 = true
      ·
       subst c96
       have H1 : ((laws_toArray.f kj24 l1_0 l1_1).bind fun bt326 => ((laws_eqArray.f kj24 t303 t306 bt326.1 bt326.2).bind fun t332 => (if t332 = true then ((laws_markArray.f kj24 t296 t299 1).bind fun bt333 => ((laws_markArray.f kj24 t303 t306 bt333.1).bind fun bt336 => (if bt336.1 < 0 then (laws_FnExactCopy.j1 kj24 t294 true l0_0 l0_1 l1_0 l1_1 t288 t291 t310 t313) else ((laws_eqArray.f kj24 t310 t313 t288 t291).bind fun t339 => (if t339 = true then (laws_FnExactCopy.j1 kj24 t294 (t316 != t294) l0_0 l0_1 l1_0 l1_1 t288 t291 t310 t313) else (laws_FnExactCopy.j1 kj24 t294 true l0_0 l0_1 l1_0 l1_1 t288 t291 t310 t313)))))) else (some false)))) = some r := by rw [if_pos rfl] at H; exact H
       clear H
       have H := H1
       clear H1
       replace H := Option.bind_eq_some_iff.mp H
       obtain ⟨⟨t326, t329⟩, A970, H⟩ := H
       replace H : ((laws_eqArray.f kj24 t303 t306 t326 t329).bind fun t332 => (if t332 = true then ((laws_markArray.f kj24 t296 t299 1).bind fun bt333 => ((laws_markArray.f kj24 t303 t306 bt333.1).bind fun bt336 => (if bt336.1 < 0 then (laws_FnExactCopy.j1 kj24 t294 true l0_0 l0_1 l1_0 l1_1 t288 t291 t310 t313) else ((laws_eqArray.f kj24 t310 t313 t288 t291).bind fun t339 => (if t339 = true then (laws_FnExactCopy.j1 kj24 t294 (t316 != t294) l0_0 l0_1 l1_0 l1_1 t288 t291 t310 t313) else (laws_FnExactCopy.j1 kj24 t294 true l0_0 l0_1 l1_0 l1_1 t288 t291 t310 t313)))))) else (some false))) = some r := H
       have A97 := Aside0.mk A970
       clear A970
       replace H := Option.bind_eq_some_iff.mp H
       obtain ⟨t332, A980, H⟩ := H
       replace H : (if t332 = true then ((laws_markArray.f kj24 t296 t299 1).bind fun bt333 => ((laws_markArray.f kj24 t303 t306 bt333.1).bind fun bt336 => (if bt336.1 < 0 then (laws_FnExactCopy.j1 kj24 t294 true l0_0 l0_1 l1_0 l1_1 t288 t291 t310 t313) else ((laws_eqArray.f kj24 t310 t313 t288 t291).bind fun t339 => (if t339 = true then (laws_FnExactCopy.j1 kj24 t294 (t316 != t294) l0_0 l0_1 l1_0 l1_1 t288 t291 t310 t313) else (laws_FnExactCopy.j1 kj24 t294 true l0_0 l0_1 l1_0 l1_1 t288 t291 t310 t313)))))) else (some false)) = some r := H
       have A98 := Aside0.mk A980
       clear A980
       by_cases c99 : t332 = true
       ·
        subst c99
        have H1 : ((laws_markArray.f kj24 t296 t299 1).bind fun bt333 => ((laws_markArray.f kj24 t303 t306 bt333.1).bind fun bt336 => (if bt336.1 < 0 then (laws_FnExactCopy.j1 kj24 t294 true l0_0 l0_1 l1_0 l1_1 t288 t291 t310 t313) else ((laws_eqArray.f kj24 t310 t313 t288 t291).bind fun t339 => (if t339 = true then (laws_FnExactCopy.j1 kj24 t294 (t316 != t294) l0_0 l0_1 l1_0 l1_1 t288 t291 t310 t313) else (laws_FnExactCopy.j1 kj24 t294 true l0_0 l0_1 l1_0 l1_1 t288 t291 t310 t313)))))) = some r := by rw [if_pos rfl] at H; exact H
        clear H
        have H := H1
        clear H1
        replace H := Option.bind_eq_some_iff.mp H
        obtain ⟨⟨t333, t334, t335⟩, A1000, H⟩ := H
        replace H : ((laws_markArray.f kj24 t303 t306 t333).bind fun bt336 => (if bt336.1 < 0 then (laws_FnExactCopy.j1 kj24 t294 true l0_0 l0_1 l1_0 l1_1 t288 t291 t310 t313) else ((laws_eqArray.f kj24 t310 t313 t288 t291).bind fun t339 => (if t339 = true then (laws_FnExactCopy.j1 kj24 t294 (t316 != t294) l0_0 l0_1 l1_0 l1_1 t288 t291 t310 t313) else (laws_FnExactCopy.j1 kj24 t294 true l0_0 l0_1 l1_0 l1_1 t288 t291 t310 t313))))) = some r := H
        have A100 := Aside0.mk A1000
        clear A1000
        replace H := Option.bind_eq_some_iff.mp H
        obtain ⟨⟨t336, t337, t338⟩, A1010, H⟩ := H
        replace H : (if t336 < 0 then (laws_FnExactCopy.j1 kj24 t294 true l0_0 l0_1 l1_0 l1_1 t288 t291 t310 t313) else ((laws_eqArray.f kj24 t310 t313 t288 t291).bind fun t339 => (if t339 = true then (laws_FnExactCopy.j1 kj24 t294 (t316 != t294) l0_0 l0_1 l1_0 l1_1 t288 t291 t310 t313) else (laws_FnExactCopy.j1 kj24 t294 true l0_0 l0_1 l1_0 l1_1 t288 t291 t310 t313)))) = some r := H
        have A101 := Aside0.mk A1010
        clear A1010
        have HC102 := Aside0.mk H
        clear H
        try go_wp2
        replace HO_296000 := Aside0.mk (Kd.R_drew HO_296000.out)
        replace HO_296001 := Aside0.mk (Kd.R_drew HO_296001.out)
        replace HO_303000 := Aside0.mk (Kd.R_drew HO_303000.out)
        replace HO_303001 := Aside0.mk (Kd.R_drew HO_303001.out)
        replace HO_310000 := Aside0.mk (Kd.R_drew HO_310000.out)
        replace HO_310001 := Aside0.mk (Kd.R_drew HO_310001.out)
        replace HO_318000 := Aside0.mk (Kd.R_drew HO_318000.out)
        replace HO_318001 := Aside0.mk (Kd.R_drew HO_318001.out)
        replace BK272 := Aside0.mk (blk_drew BK272.out)
        replace BK273 := Aside0.mk (blk_drew BK273.out)
        replace BK295 := Aside0.mk (blk_drew BK295.out)
        replace BK302 := Aside0.mk (blk_drew BK302.out)
        replace BK309 := Aside0.mk (blk_drew BK309.out)
        replace BK317 := Aside0.mk (blk_drew BK317.out)
        replace HB := Aside0.mk (below_drew1 HB.out)
        refine start_ (n := 5) (S := fun w' => w'.cell? ⟨gb302, 0, none⟩ = some (.slice Ao51 t296.length co51) ∧ w'.cell? ⟨gb302, 1, none⟩ = some (.slice Ao56 t299.length co56) ∧ w'.cell? ⟨gb272, 0, none⟩ = some (.slice A0_0 l0_0.length c0_0) ∧ w'.cell? ⟨gb272, 1, none⟩ = some (.slice A0_1 l0_1.length c0_1)) (ds := []) #[false, false, false, false, false] (by kernel_rfl) rfl rfl ⟨(blk_cell BK302.out 0).trans rfl, (blk_cell BK302.out 1).trans rfl, (blk_cell BK272.out 0).trans rfl, (blk_cell BK272.out 1).trans rfl⟩ (fun hHeld => ?_)
        generalize wc.drew = w103 at HO_296000 HO_296001 HO_303000 HO_303001 HO_310000 HO_310001 HO_318000 HO_318001 BK272 BK273 BK295 BK302 BK309 BK317 HB hHeld ⊢
        refine take_ (i := 0) (N := some 54) (v := ?_) (a' := ?_) #[true, false, false, false, false] rfl rfl (by kernel_rfl) (fun _ _ _ h => h) (Or.inl ⟨by rfl, ?_⟩) hHeld ?_ ?_
        rotate_left
        ·
         rintro w' ⟨s0, s1, s2, s3⟩
         go_simp
         with_reducible rfl
        rotate_left
        ·
         simp only [Act.put, List.setIfInBounds_toArray, List.set_cons_zero, List.set_cons_succ, i64_w, i32_w]
         rfl
        refine take_ (i := 1) (N := some 55) (v := ?_) (a' := ?_) #[true, true, false, false, false] rfl rfl (by kernel_rfl) (fun _ _ _ h => h) (Or.inl ⟨by rfl, ?_⟩) hHeld ?_ ?_
        rotate_left
        ·
         rintro w' ⟨s0, s1, s2, s3⟩
         go_simp
         with_reducible rfl
        rotate_left
        ·
         simp only [Act.put, List.setIfInBounds_toArray, List.set_cons_zero, List.set_cons_succ, i64_w, i32_w]
         rfl
        refine one_ (i := 2) (N := some 56) #[true, true, true, false, false] rfl rfl (by kernel_rfl) (by decide) (fun K hK => ?_)
        refine goes_ Try.func17 (by kernel_rfl) rfl #[.agg #[.slice A0_0 l0_0.length c0_0, .slice A0_1 l0_1.length c0_1]] (by rfl) rfl rfl (by (try simp only [List.map_toArray, List.map_cons, List.map_nil]); first | done | rfl | (simp only [List.length_drop, List.length_take]; rfl)) ?_
        with_reducible refine (laws_toArray.calls kj24 _ _ l0_0 _ _ l0_1 t319 t322 _ ?side1 ?side2 ?side3 ?side4 A94.out).mono ?_
        (case side1 => exact cU (Kd.C_below HR0_0.out HB.out))
        (case side2 => exact HC0_0.out)
        (case side3 => exact cU (Kd.C_below HR0_1.out HB.out))
        (case side4 => exact HC0_1.out)
        rintro e w104 ⟨v320, v323, rfl, ho0, ho1, hb⟩
        refine ⟨_, rfl, ?_⟩
        have HO321 := Aside0.mk (Kd.R_lower (Kd.R_new' (Kd.R_new' (Kd.R_new' (Kd.R_new' (Kd.R_new' (Kd.R_new' (Kd.R_new' (Kd.R_new' ho0 (Kd.R_lt (RU HO_296000.out))) (Kd.R_lt (RU HO_296001.out))) (Kd.R_lt (RU HO_303000.out))) (Kd.R_lt (RU HO_303001.out))) (Kd.R_lt (RU HO_310000.out))) (Kd.R_lt (RU HO_310001.out))) (Kd.R_lt (RU HO_318000.out))) (Kd.R_lt (RU HO_318001.out))) (below_size (bS6 HB.out GE272.out GE273.out GE295.out GE302.out GE309.out GE317.out)))
        have HO324 := Aside0.mk (Kd.R_lower (Kd.R_new' (Kd.R_new' (Kd.R_new' (Kd.R_new' (Kd.R_new' (Kd.R_new' (Kd.R_new' (Kd.R_new' ho1 (Kd.R_lt (RU HO_296000.out))) (Kd.R_lt (RU HO_296001.out))) (Kd.R_lt (RU HO_303000.out))) (Kd.R_lt (RU HO_303001.out))) (Kd.R_lt (RU HO_310000.out))) (Kd.R_lt (RU HO_310001.out))) (Kd.R_lt (RU HO_318000.out))) (Kd.R_lt (RU HO_318001.out))) (below_size (bS6 HB.out GE272.out GE273.out GE295.out GE302.out GE309.out GE317.out)))
        replace HO_296000 := Aside0.mk (Kd.R_mono (Kd.R_told (Kd.R_told (Kd.R_old (RU HO_296000.out) hb) (Kd.R_base ho0)) (Kd.R_base ho1)) (fun _ h_ => h_.1))
        replace HO_296001 := Aside0.mk (Kd.R_mono (Kd.R_told (Kd.R_told (Kd.R_old (RU HO_296001.out) hb) (Kd.R_base ho0)) (Kd.R_base ho1)) (fun _ h_ => h_.1))
        replace HO_303000 := Aside0.mk (Kd.R_mono (Kd.R_told (Kd.R_told (Kd.R_old (RU HO_303000.out) hb) (Kd.R_base ho0)) (Kd.R_base ho1)) (fun _ h_ => h_.1))
        replace HO_303001 := Aside0.mk (Kd.R_mono (Kd.R_told (Kd.R_told (Kd.R_old (RU HO_303001.out) hb) (Kd.R_base ho0)) (Kd.R_base ho1)) (fun _ h_ => h_.1))
        replace HO_310000 := Aside0.mk (Kd.R_mono (Kd.R_told (Kd.R_told (Kd.R_old (RU HO_310000.out) hb) (Kd.R_base ho0)) (Kd.R_base ho1)) (fun _ h_ => h_.1))
        replace HO_310001 := Aside0.mk (Kd.R_mono (Kd.R_told (Kd.R_told (Kd.R_old (RU HO_310001.out) hb) (Kd.R_base ho0)) (Kd.R_base ho1)) (fun _ h_ => h_.1))
        replace HO_318000 := Aside0.mk (Kd.R_mono (Kd.R_told (Kd.R_told (Kd.R_old (RU HO_318000.out) hb) (Kd.R_base ho0)) (Kd.R_base ho1)) (fun _ h_ => h_.1))
        replace HO_318001 := Aside0.mk (Kd.R_mono (Kd.R_told (Kd.R_told (Kd.R_old (RU HO_318001.out) hb) (Kd.R_base ho0)) (Kd.R_base ho1)) (fun _ h_ => h_.1))
        replace BK272 := Aside0.mk (blk_below (g := gb272) (o := .cells #[.slice A0_0 l0_0.length c0_0, .slice A0_1 l0_1.length c0_1] 24 (0, 0)) (kU BK272.out) hb)
        replace BK273 := Aside0.mk (blk_below (g := gb273) (o := .cells #[.slice A1_0 l1_0.length c1_0, .slice A1_1 l1_1.length c1_1] 24 (0, 0)) (kU BK273.out) hb)
        replace BK295 := Aside0.mk (blk_below (g := gb295) (o := .cells #[.slice Ao43 t288.length co43, .slice Ao45 t291.length co45] 26 (0, 0)) (kU BK295.out) hb)
        replace BK302 := Aside0.mk (blk_below (g := gb302) (o := .cells #[.slice Ao51 t296.length co51, .slice Ao56 t299.length co56] 26 (0, 0)) (kU BK302.out) hb)
        replace BK309 := Aside0.mk (blk_below (g := gb309) (o := .cells #[.slice Ao61 t303.length co61, .slice Ao67 t306.length co67] 26 (0, 0)) (kU BK309.out) hb)
        replace BK317 := Aside0.mk (blk_below (g := gb317) (o := .cells #[.slice Ao71 t310.length co71, .slice Ao78 t313.length co78] 26 (0, 0)) (kU BK317.out) hb)
        replace HB := Aside0.mk (below_step (bS6 HB.out GE272.out GE273.out GE295.out GE302.out GE309.out GE317.out) hb)
        (try clear hb)
        (try clear hb2)
        (try clear hk)
        (try clear hi)
        (try clear ho0)
        (try clear ho1)
        obtain ⟨Ao105, co105, eo105⟩ := Kd.R_slice HO321.out
        (first | subst eo105 | (injection eo105 with f1_ f2_ f3_; have f4_ := f1_.symm; have f5_ := f3_.symm; clear f1_ f2_ f3_; subst f4_; subst f5_))
        obtain ⟨Ao106, co106, eo106⟩ := Kd.R_slice HO324.out
        (first | subst eo106 | (injection eo106 with f1_ f2_ f3_; have f4_ := f1_.symm; have f5_ := f3_.symm; clear f1_ f2_ f3_; subst f4_; subst f5_))
        refine hK.out _ _ ⟨(blk_cell BK302.out 0).trans rfl, (blk_cell BK302.out 1).trans rfl, (blk_cell BK272.out 0).trans rfl, (blk_cell BK272.out 1).trans rfl⟩ (fun hHeld => ?_)
        clear hK K
        refine norm_ (a' := ?_) ?_ ?_
        rotate_left
        ·
         show Act.put _ (some 56) _ = _
         simp only [Act.put, List.setIfInBounds_toArray, List.set_cons_zero, List.set_cons_succ, i64_w, i32_w]
         rfl
        refine one_ (i := 3) (N := some 57) #[true, true, true, true, false] rfl rfl (by kernel_rfl) (by decide) (fun K hK => ?_)
        refine goes_ Try.func19 (by kernel_rfl) rfl #[.agg #[.slice Ao51 t296.length co51, .slice Ao56 t299.length co56], .agg #[.slice Ao105 t319.length co105, .slice Ao106 t322.length co106]] (by rfl) rfl rfl (by (try simp only [List.map_toArray, List.map_cons, List.map_nil]); first | done | rfl | (simp only [List.length_drop, List.length_take]; rfl)) ?_
        with_reducible refine (laws_eqArray.calls kj24 _ _ t296 _ _ t299 _ _ t319 _ _ t322 true _ ?side1 ?side2 ?side3 ?side4 ?side5 ?side6 ?side7 ?side8 A95.out).mono ?_
        (case side1 => exact cU (Kd.R_reads' HO_303000.out).2.2)
        (case side2 => exact (Kd.R_reads' HO_303000.out).2.1)
        (case side3 => exact cU (Kd.R_reads' HO_303001.out).2.2)
        (case side4 => exact (Kd.R_reads' HO_303001.out).2.1)
        (case side5 => exact cU (Kd.R_reads' HO321.out).2.2)
        (case side6 => exact (Kd.R_reads' HO321.out).2.1)
        (case side7 => exact cU (Kd.R_reads' HO324.out).2.2)
        (case side8 => exact (Kd.R_reads' HO324.out).2.1)
        rintro e w107 ⟨rfl, hb⟩
        refine ⟨_, rfl, ?_⟩
        replace HO_296000 := Aside0.mk (Kd.R_below (RU HO_296000.out) hb)
        replace HO_296001 := Aside0.mk (Kd.R_below (RU HO_296001.out) hb)
        replace HO_303000 := Aside0.mk (Kd.R_below (RU HO_303000.out) hb)
        replace HO_303001 := Aside0.mk (Kd.R_below (RU HO_303001.out) hb)
        replace HO_310000 := Aside0.mk (Kd.R_below (RU HO_310000.out) hb)
        replace HO_310001 := Aside0.mk (Kd.R_below (RU HO_310001.out) hb)
        replace HO_318000 := Aside0.mk (Kd.R_below (RU HO_318000.out) hb)
        replace HO_318001 := Aside0.mk (Kd.R_below (RU HO_318001.out) hb)
        replace HO321 := Aside0.mk (Kd.R_below (RU HO321.out) hb)
        replace HO324 := Aside0.mk (Kd.R_below (RU HO324.out) hb)
        replace BK272 := Aside0.mk (blk_below (g := gb272) (o := .cells #[.slice A0_0 l0_0.length c0_0, .slice A0_1 l0_1.length c0_1] 24 (0, 0)) (kU BK272.out) hb)
        replace BK273 := Aside0.mk (blk_below (g := gb273) (o := .cells #[.slice A1_0 l1_0.length c1_0, .slice A1_1 l1_1.length c1_1] 24 (0, 0)) (kU BK273.out) hb)
        replace BK295 := Aside0.mk (blk_below (g := gb295) (o := .cells #[.slice Ao43 t288.length co43, .slice Ao45 t291.length co45] 26 (0, 0)) (kU BK295.out) hb)
        replace BK302 := Aside0.mk (blk_below (g := gb302) (o := .cells #[.slice Ao51 t296.length co51, .slice Ao56 t299.length co56] 26 (0, 0)) (kU BK302.out) hb)
        replace BK309 := Aside0.mk (blk_below (g := gb309) (o := .cells #[.slice Ao61 t303.length co61, .slice Ao67 t306.length co67] 26 (0, 0)) (kU BK309.out) hb)
        replace BK317 := Aside0.mk (blk_below (g := gb317) (o := .cells #[.slice Ao71 t310.length co71, .slice Ao78 t313.length co78] 26 (0, 0)) (kU BK317.out) hb)
        replace HB := Aside0.mk (below_step (bS6 HB.out GE272.out GE273.out GE295.out GE302.out GE309.out GE317.out) hb)
        (try clear hb)
        (try clear hb2)
        (try clear hk)
        (try clear hi)
        refine hK.out _ _ ⟨(blk_cell BK302.out 0).trans rfl, (blk_cell BK302.out 1).trans rfl, (blk_cell BK272.out 0).trans rfl, (blk_cell BK272.out 1).trans rfl⟩ (fun hHeld => ?_)
        clear hK K
        refine norm_ (a' := ?_) ?_ ?_
        rotate_left
        ·
         show Act.put _ (some 57) _ = _
         simp only [Act.put, List.setIfInBounds_toArray, List.set_cons_zero, List.set_cons_succ, i64_w, i32_w]
         rfl
        refine pure_ (i := 4) (N := some 58) (v := ?_) (a' := ?_) #[true, true, true, true, true] rfl rfl (by kernel_rfl) (fun _ _ _ h => h) (Or.inl ⟨by rfl, ?_⟩) ?_ ?_
        rotate_left
        ·
         intro w'
         go_simp
         with_reducible rfl
        rotate_left
        ·
         simp only [Act.put, List.setIfInBounds_toArray, List.set_cons_zero, List.set_cons_succ, i64_w, i32_w]
         rfl
        refine done_ (by kernel_rfl) ?_
        try go_wp2
        replace HO_296000 := Aside0.mk (Kd.R_drew HO_296000.out)
        replace HO_296001 := Aside0.mk (Kd.R_drew HO_296001.out)
        replace HO_303000 := Aside0.mk (Kd.R_drew HO_303000.out)
        replace HO_303001 := Aside0.mk (Kd.R_drew HO_303001.out)
        replace HO_310000 := Aside0.mk (Kd.R_drew HO_310000.out)
        replace HO_310001 := Aside0.mk (Kd.R_drew HO_310001.out)
        replace HO_318000 := Aside0.mk (Kd.R_drew HO_318000.out)
        replace HO_318001 := Aside0.mk (Kd.R_drew HO_318001.out)
        replace HO321 := Aside0.mk (Kd.R_drew HO321.out)
        replace HO324 := Aside0.mk (Kd.R_drew HO324.out)
        replace BK272 := Aside0.mk (blk_drew BK272.out)
        replace BK273 := Aside0.mk (blk_drew BK273.out)
        replace BK295 := Aside0.mk (blk_drew BK295.out)
        replace BK302 := Aside0.mk (blk_drew BK302.out)
        replace BK309 := Aside0.mk (blk_drew BK309.out)
        replace BK317 := Aside0.mk (blk_drew BK317.out)
        replace HB := Aside0.mk (below_drew1 HB.out)
        refine start_ (n := 5) (S := fun w' => w'.cell? ⟨gb309, 0, none⟩ = some (.slice Ao61 t303.length co61) ∧ w'.cell? ⟨gb309, 1, none⟩ = some (.slice Ao67 t306.length co67) ∧ w'.cell? ⟨gb273, 0, none⟩ = some (.slice A1_0 l1_0.length c1_0) ∧ w'.cell? ⟨gb273, 1, none⟩ = some (.slice A1_1 l1_1.length c1_1)) (ds := []) #[false, false, false, false, false] (by kernel_rfl) rfl rfl ⟨(blk_cell BK309.out 0).trans rfl, (blk_cell BK309.out 1).trans rfl, (blk_cell BK273.out 0).trans rfl, (blk_cell BK273.out 1).trans rfl⟩ (fun hHeld => ?_)
        generalize w107.drew = w108 at HO_296000 HO_296001 HO_303000 HO_303001 HO_310000 HO_310001 HO_318000 HO_318001 HO321 HO324 BK272 BK273 BK295 BK302 BK309 BK317 HB hHeld ⊢
        refine take_ (i := 0) (N := some 59) (v := ?_) (a' := ?_) #[true, false, false, false, false] rfl rfl (by kernel_rfl) (fun _ _ _ h => h) (Or.inl ⟨by rfl, ?_⟩) hHeld ?_ ?_
        rotate_left
        ·
         rintro w' ⟨s0, s1, s2, s3⟩
         go_simp
         with_reducible rfl
        rotate_left
        ·
         simp only [Act.put, List.setIfInBounds_toArray, List.set_cons_zero, List.set_cons_succ, i64_w, i32_w]
         rfl
        refine take_ (i := 1) (N := some 60) (v := ?_) (a' := ?_) #[true, true, false, false, false] rfl rfl (by kernel_rfl) (fun _ _ _ h => h) (Or.inl ⟨by rfl, ?_⟩) hHeld ?_ ?_
        rotate_left
        ·
         rintro w' ⟨s0, s1, s2, s3⟩
         go_simp
         with_reducible rfl
        rotate_left
        ·
         simp only [Act.put, List.setIfInBounds_toArray, List.set_cons_zero, List.set_cons_succ, i64_w, i32_w]
         rfl
        refine one_ (i := 2) (N := some 61) #[true, true, true, false, false] rfl rfl (by kernel_rfl) (by decide) (fun K hK => ?_)
        refine goes_ Try.func17 (by kernel_rfl) rfl #[.agg #[.slice A1_0 l1_0.length c1_0, .slice A1_1 l1_1.length c1_1]] (by rfl) rfl rfl (by (try simp only [List.map_toArray, List.map_cons, List.map_nil]); first | done | rfl | (simp only [List.length_drop, List.length_take]; rfl)) ?_
        with_reducible refine (laws_toArray.calls kj24 _ _ l1_0 _ _ l1_1 t326 t329 _ ?side1 ?side2 ?side3 ?side4 A97.out).mono ?_
        (case side1 => exact cU (Kd.C_below HR1_0.out HB.out))
        (case side2 => exact HC1_0.out)
        (case side3 => exact cU (Kd.C_below HR1_1.out HB.out))
        (case side4 => exact HC1_1.out)
        rintro e w109 ⟨v327, v330, rfl, ho0, ho1, hb⟩
        refine ⟨_, rfl, ?_⟩
        have HO328 := Aside0.mk (Kd.R_lower (Kd.R_new' (Kd.R_new' (Kd.R_new' (Kd.R_new' (Kd.R_new' (Kd.R_new' (Kd.R_new' (Kd.R_new' (Kd.R_new' (Kd.R_new' ho0 (Kd.R_lt (RU HO_296000.out))) (Kd.R_lt (RU HO_296001.out))) (Kd.R_lt (RU HO_303000.out))) (Kd.R_lt (RU HO_303001.out))) (Kd.R_lt (RU HO_310000.out))) (Kd.R_lt (RU HO_310001.out))) (Kd.R_lt (RU HO_318000.out))) (Kd.R_lt (RU HO_318001.out))) (Kd.R_lt (RU HO321.out))) (Kd.R_lt (RU HO324.out))) (below_size (bS6 HB.out GE272.out GE273.out GE295.out GE302.out GE309.out GE317.out)))
        have HO331 := Aside0.mk (Kd.R_lower (Kd.R_new' (Kd.R_new' (Kd.R_new' (Kd.R_new' (Kd.R_new' (Kd.R_new' (Kd.R_new' (Kd.R_new' (Kd.R_new' (Kd.R_new' ho1 (Kd.R_lt (RU HO_296000.out))) (Kd.R_lt (RU HO_296001.out))) (Kd.R_lt (RU HO_303000.out))) (Kd.R_lt (RU HO_303001.out))) (Kd.R_lt (RU HO_310000.out))) (Kd.R_lt (RU HO_310001.out))) (Kd.R_lt (RU HO_318000.out))) (Kd.R_lt (RU HO_318001.out))) (Kd.R_lt (RU HO321.out))) (Kd.R_lt (RU HO324.out))) (below_size (bS6 HB.out GE272.out GE273.out GE295.out GE302.out GE309.out GE317.out)))
        replace HO_296000 := Aside0.mk (Kd.R_mono (Kd.R_told (Kd.R_told (Kd.R_old (RU HO_296000.out) hb) (Kd.R_base ho0)) (Kd.R_base ho1)) (fun _ h_ => h_.1))
        replace HO_296001 := Aside0.mk (Kd.R_mono (Kd.R_told (Kd.R_told (Kd.R_old (RU HO_296001.out) hb) (Kd.R_base ho0)) (Kd.R_base ho1)) (fun _ h_ => h_.1))
        replace HO_303000 := Aside0.mk (Kd.R_mono (Kd.R_told (Kd.R_told (Kd.R_old (RU HO_303000.out) hb) (Kd.R_base ho0)) (Kd.R_base ho1)) (fun _ h_ => h_.1))
        replace HO_303001 := Aside0.mk (Kd.R_mono (Kd.R_told (Kd.R_told (Kd.R_old (RU HO_303001.out) hb) (Kd.R_base ho0)) (Kd.R_base ho1)) (fun _ h_ => h_.1))
        replace HO_310000 := Aside0.mk (Kd.R_mono (Kd.R_told (Kd.R_told (Kd.R_old (RU HO_310000.out) hb) (Kd.R_base ho0)) (Kd.R_base ho1)) (fun _ h_ => h_.1))
        replace HO_310001 := Aside0.mk (Kd.R_mono (Kd.R_told (Kd.R_told (Kd.R_old (RU HO_310001.out) hb) (Kd.R_base ho0)) (Kd.R_base ho1)) (fun _ h_ => h_.1))
        replace HO_318000 := Aside0.mk (Kd.R_mono (Kd.R_told (Kd.R_told (Kd.R_old (RU HO_318000.out) hb) (Kd.R_base ho0)) (Kd.R_base ho1)) (fun _ h_ => h_.1))
        replace HO_318001 := Aside0.mk (Kd.R_mono (Kd.R_told (Kd.R_told (Kd.R_old (RU HO_318001.out) hb) (Kd.R_base ho0)) (Kd.R_base ho1)) (fun _ h_ => h_.1))
        replace HO321 := Aside0.mk (Kd.R_mono (Kd.R_told (Kd.R_told (Kd.R_old (RU HO321.out) hb) (Kd.R_base ho0)) (Kd.R_base ho1)) (fun _ h_ => h_.1))
        replace HO324 := Aside0.mk (Kd.R_mono (Kd.R_told (Kd.R_told (Kd.R_old (RU HO324.out) hb) (Kd.R_base ho0)) (Kd.R_base ho1)) (fun _ h_ => h_.1))
        replace BK272 := Aside0.mk (blk_below (g := gb272) (o := .cells #[.slice A0_0 l0_0.length c0_0, .slice A0_1 l0_1.length c0_1] 24 (0, 0)) (kU BK272.out) hb)
        replace BK273 := Aside0.mk (blk_below (g := gb273) (o := .cells #[.slice A1_0 l1_0.length c1_0, .slice A1_1 l1_1.length c1_1] 24 (0, 0)) (kU BK273.out) hb)
        replace BK295 := Aside0.mk (blk_below (g := gb295) (o := .cells #[.slice Ao43 t288.length co43, .slice Ao45 t291.length co45] 26 (0, 0)) (kU BK295.out) hb)
        replace BK302 := Aside0.mk (blk_below (g := gb302) (o := .cells #[.slice Ao51 t296.length co51, .slice Ao56 t299.length co56] 26 (0, 0)) (kU BK302.out) hb)
        replace BK309 := Aside0.mk (blk_below (g := gb309) (o := .cells #[.slice Ao61 t303.length co61, .slice Ao67 t306.length co67] 26 (0, 0)) (kU BK309.out) hb)
        replace BK317 := Aside0.mk (blk_below (g := gb317) (o := .cells #[.slice Ao71 t310.length co71, .slice Ao78 t313.length co78] 26 (0, 0)) (kU BK317.out) hb)
        replace HB := Aside0.mk (below_step (bS6 HB.out GE272.out GE273.out GE295.out GE302.out GE309.out GE317.out) hb)
        (try clear hb)
        (try clear hb2)
        (try clear hk)
        (try clear hi)
        (try clear ho0)
        (try clear ho1)
        obtain ⟨Ao110, co110, eo110⟩ := Kd.R_slice HO328.out
        (first | subst eo110 | (injection eo110 with f1_ f2_ f3_; have f4_ := f1_.symm; have f5_ := f3_.symm; clear f1_ f2_ f3_; subst f4_; subst f5_))
        obtain ⟨Ao111, co111, eo111⟩ := Kd.R_slice HO331.out
        (first | subst eo111 | (injection eo111 with f1_ f2_ f3_; have f4_ := f1_.symm; have f5_ := f3_.symm; clear f1_ f2_ f3_; subst f4_; subst f5_))
        refine hK.out _ _ ⟨(blk_cell BK309.out 0).trans rfl, (blk_cell BK309.out 1).trans rfl, (blk_cell BK273.out 0).trans rfl, (blk_cell BK273.out 1).trans rfl⟩ (fun hHeld => ?_)
        clear hK K
        refine norm_ (a' := ?_) ?_ ?_
        rotate_left
        ·
         show Act.put _ (some 61) _ = _
         simp only [Act.put, List.setIfInBounds_toArray, List.set_cons_zero, List.set_cons_succ, i64_w, i32_w]
         rfl
        refine one_ (i := 3) (N := some 62) #[true, true, true, true, false] rfl rfl (by kernel_rfl) (by decide) (fun K hK => ?_)
        refine goes_ Try.func19 (by kernel_rfl) rfl #[.agg #[.slice Ao61 t303.length co61, .slice Ao67 t306.length co67], .agg #[.slice Ao110 t326.length co110, .slice Ao111 t329.length co111]] (by rfl) rfl rfl (by (try simp only [List.map_toArray, List.map_cons, List.map_nil]); first | done | rfl | (simp only [List.length_drop, List.length_take]; rfl)) ?_
        with_reducible refine (laws_eqArray.calls kj24 _ _ t303 _ _ t306 _ _ t326 _ _ t329 true _ ?side1 ?side2 ?side3 ?side4 ?side5 ?side6 ?side7 ?side8 A98.out).mono ?_
        (case side1 => exact cU (Kd.R_reads' HO_310000.out).2.2)
        (case side2 => exact (Kd.R_reads' HO_310000.out).2.1)
        (case side3 => exact cU (Kd.R_reads' HO_310001.out).2.2)
        (case side4 => exact (Kd.R_reads' HO_310001.out).2.1)
        (case side5 => exact cU (Kd.R_reads' HO328.out).2.2)
        (case side6 => exact (Kd.R_reads' HO328.out).2.1)
        (case side7 => exact cU (Kd.R_reads' HO331.out).2.2)
        (case side8 => exact (Kd.R_reads' HO331.out).2.1)
        rintro e w112 ⟨rfl, hb⟩
        refine ⟨_, rfl, ?_⟩
        replace HO_296000 := Aside0.mk (Kd.R_below (RU HO_296000.out) hb)
        replace HO_296001 := Aside0.mk (Kd.R_below (RU HO_296001.out) hb)
        replace HO_303000 := Aside0.mk (Kd.R_below (RU HO_303000.out) hb)
        replace HO_303001 := Aside0.mk (Kd.R_below (RU HO_303001.out) hb)
        replace HO_310000 := Aside0.mk (Kd.R_below (RU HO_310000.out) hb)
        replace HO_310001 := Aside0.mk (Kd.R_below (RU HO_310001.out) hb)
        replace HO_318000 := Aside0.mk (Kd.R_below (RU HO_318000.out) hb)
        replace HO_318001 := Aside0.mk (Kd.R_below (RU HO_318001.out) hb)
        replace HO321 := Aside0.mk (Kd.R_below (RU HO321.out) hb)
        replace HO324 := Aside0.mk (Kd.R_below (RU HO324.out) hb)
        replace HO328 := Aside0.mk (Kd.R_below (RU HO328.out) hb)
        replace HO331 := Aside0.mk (Kd.R_below (RU HO331.out) hb)
        replace BK272 := Aside0.mk (blk_below (g := gb272) (o := .cells #[.slice A0_0 l0_0.length c0_0, .slice A0_1 l0_1.length c0_1] 24 (0, 0)) (kU BK272.out) hb)
        replace BK273 := Aside0.mk (blk_below (g := gb273) (o := .cells #[.slice A1_0 l1_0.length c1_0, .slice A1_1 l1_1.length c1_1] 24 (0, 0)) (kU BK273.out) hb)
        replace BK295 := Aside0.mk (blk_below (g := gb295) (o := .cells #[.slice Ao43 t288.length co43, .slice Ao45 t291.length co45] 26 (0, 0)) (kU BK295.out) hb)
        replace BK302 := Aside0.mk (blk_below (g := gb302) (o := .cells #[.slice Ao51 t296.length co51, .slice Ao56 t299.length co56] 26 (0, 0)) (kU BK302.out) hb)
        replace BK309 := Aside0.mk (blk_below (g := gb309) (o := .cells #[.slice Ao61 t303.length co61, .slice Ao67 t306.length co67] 26 (0, 0)) (kU BK309.out) hb)
        replace BK317 := Aside0.mk (blk_below (g := gb317) (o := .cells #[.slice Ao71 t310.length co71, .slice Ao78 t313.length co78] 26 (0, 0)) (kU BK317.out) hb)
        replace HB := Aside0.mk (below_step (bS6 HB.out GE272.out GE273.out GE295.out GE302.out GE309.out GE317.out) hb)
        (try clear hb)
        (try clear hb2)
        (try clear hk)
        (try clear hi)
        refine hK.out _ _ ⟨(blk_cell BK309.out 0).trans rfl, (blk_cell BK309.out 1).trans rfl, (blk_cell BK273.out 0).trans rfl, (blk_cell BK273.out 1).trans rfl⟩ (fun hHeld => ?_)
        clear hK K
        refine norm_ (a' := ?_) ?_ ?_
        rotate_left
        ·
         show Act.put _ (some 62) _ = _
         simp only [Act.put, List.setIfInBounds_toArray, List.set_cons_zero, List.set_cons_succ, i64_w, i32_w]
         rfl
        refine pure_ (i := 4) (N := some 63) (v := ?_) (a' := ?_) #[true, true, true, true, true] rfl rfl (by kernel_rfl) (fun _ _ _ h => h) (Or.inl ⟨by rfl, ?_⟩) ?_ ?_
        rotate_left
        ·
         intro w'
         go_simp
         with_reducible rfl
        rotate_left
        ·
         simp only [Act.put, List.setIfInBounds_toArray, List.set_cons_zero, List.set_cons_succ, i64_w, i32_w]
         rfl
        refine done_ (by kernel_rfl) ?_
        have hnb113 := NB302_272.out
        have hnc113 := NB272_302.out
        have hnb114 := NB302_273.out
        have hnc114 := NB273_302.out
        have hnb115 := NB302_295.out
        have hnc115 := NB295_302.out
        have hnb116 := NB302_309.out
        have hnc116 := NB309_302.out
        have hnb117 := NB302_317.out
        have hnc117 := NB317_302.out
        have hcz118_0 : w112.cell? ⟨gb302, 0, none⟩ = some (.slice Ao51 t296.length co51) := (blk_cell BK302.out 0).trans rfl
        have hcz118_1 : w112.cell? ⟨gb302, 1, none⟩ = some (.slice Ao56 t299.length co56) := (blk_cell BK302.out 1).trans rfl
        have hfz118_0 := blk_frozen BK302.out 0
        have hfz118_1 := blk_frozen BK302.out 1
        go_upto_region 21 with (first | ((with_reducible refine gate_callee (f := 20) rfl ?_); refine goesL_ (some 66) rfl rfl Try.func20 (by kernel_rfl) rfl #[.agg #[.slice Ao51 t296.length co51, .slice Ao56 t299.length co56], .int .i64 1] rfl (by (try simp only [List.map_toArray, List.map_cons, List.map_nil]); first | done | rfl | (simp only [List.length_drop, List.length_take]; rfl)) ?_; (with_reducible refine (laws_markArray.calls kj24 (fun k_ => some k_ = (.slice Ao51 t296.length co51 : Value).ownBlock) (.slice Ao51 t296.length co51) t296 (fun k_ => some k_ = (.slice Ao56 t299.length co56 : Value).ownBlock) (.slice Ao56 t299.length co56) t299 1 t333 t334 t335 w _ ?side1 ?side2 ?side3 ?side4 ?side5 A100.out).mono ?_); (case side1 => exact bS6 HB.out GE272.out GE273.out GE295.out GE302.out GE309.out GE317.out); (case side2 => exact Kd.R_tight rfl HO_303000.out); (case side3 => exact fun k_ e_ => (HO_303000.out.1 k_ e_.symm).1.1.1.1.2.2.1); (case side4 => exact Kd.R_tight rfl HO_303001.out); (case side5 => exact fun k_ e_ => (HO_303001.out.1 k_ e_.symm).1.1.1.1.2.2.1); rintro e w119 ⟨rfl, hy0, hy1, hb, hkp⟩; refine ⟨_, rfl, ?_⟩; replace HO_296000 := Aside0.mk (Kd.R_mono (ok' := fun k_ => some k_ ≠ (.slice Ao45 t291.length co45 : Value).ownBlock ∧ some k_ ≠ (.slice Ao51 t296.length co51 : Value).ownBlock ∧ some k_ ≠ (.slice Ao56 t299.length co56 : Value).ownBlock ∧ some k_ ≠ (.slice Ao61 t303.length co61 : Value).ownBlock ∧ some k_ ≠ (.slice Ao67 t306.length co67 : Value).ownBlock ∧ some k_ ≠ (.slice Ao71 t310.length co71 : Value).ownBlock ∧ some k_ ≠ (.slice Ao78 t313.length co78 : Value).ownBlock ∧ some k_ ≠ (.slice Ao105 t319.length co105 : Value).ownBlock ∧ some k_ ≠ (.slice Ao106 t322.length co106 : Value).ownBlock ∧ some k_ ≠ (.slice Ao110 t326.length co110 : Value).ownBlock ∧ some k_ ≠ (.slice Ao111 t329.length co111 : Value).ownBlock) (Kd.R_keptB (HO_296000.out) hkp (fun k_ hk_ hs_ => Or.elim hs_ (fun e_ => (hk_.1.1.1.1.2.1) e_) (fun e_ => (hk_.1.1.1.1.2.2.1) e_))) (fun k_ hk_ => ⟨hk_.1.1.1.1.1.1, hk_.1.1.1.1.1.2.1, hk_.1.1.1.1.1.2.2.1, hk_.1.1.1.1.1.2.2.2.1, hk_.1.1.1.1.1.2.2.2.2.1, hk_.1.1.1.1.1.2.2.2.2.2.1, hk_.1.1.1.1.1.2.2.2.2.2.2, hk_.1.1.1.1.2, hk_.1.1.1.2, hk_.1.1.2, hk_.1.2⟩)); replace HO_296001 := Aside0.mk (Kd.R_mono (ok' := fun k_ => some k_ ≠ (.slice Ao43 t288.length co43 : Value).ownBlock ∧ some k_ ≠ (.slice Ao51 t296.length co51 : Value).ownBlock ∧ some k_ ≠ (.slice Ao56 t299.length co56 : Value).ownBlock ∧ some k_ ≠ (.slice Ao61 t303.length co61 : Value).ownBlock ∧ some k_ ≠ (.slice Ao67 t306.length co67 : Value).ownBlock ∧ some k_ ≠ (.slice Ao71 t310.length co71 : Value).ownBlock ∧ some k_ ≠ (.slice Ao78 t313.length co78 : Value).ownBlock ∧ some k_ ≠ (.slice Ao105 t319.length co105 : Value).ownBlock ∧ some k_ ≠ (.slice Ao106 t322.length co106 : Value).ownBlock ∧ some k_ ≠ (.slice Ao110 t326.length co110 : Value).ownBlock ∧ some k_ ≠ (.slice Ao111 t329.length co111 : Value).ownBlock) (Kd.R_keptB (HO_296001.out) hkp (fun k_ hk_ hs_ => Or.elim hs_ (fun e_ => (hk_.1.1.1.1.2.1) e_) (fun e_ => (hk_.1.1.1.1.2.2.1) e_))) (fun k_ hk_ => ⟨hk_.1.1.1.1.1.1, hk_.1.1.1.1.1.2.1, hk_.1.1.1.1.1.2.2.1, hk_.1.1.1.1.1.2.2.2.1, hk_.1.1.1.1.1.2.2.2.2.1, hk_.1.1.1.1.1.2.2.2.2.2.1, hk_.1.1.1.1.1.2.2.2.2.2.2, hk_.1.1.1.1.2, hk_.1.1.1.2, hk_.1.1.2, hk_.1.2⟩)); replace HO_310000 := Aside0.mk (Kd.R_mono (ok' := fun k_ => some k_ ≠ (.slice Ao43 t288.length co43 : Value).ownBlock ∧ some k_ ≠ (.slice Ao45 t291.length co45 : Value).ownBlock ∧ some k_ ≠ (.slice Ao51 t296.length co51 : Value).ownBlock ∧ some k_ ≠ (.slice Ao56 t299.length co56 : Value).ownBlock ∧ some k_ ≠ (.slice Ao67 t306.length co67 : Value).ownBlock ∧ some k_ ≠ (.slice Ao71 t310.length co71 : Value).ownBlock ∧ some k_ ≠ (.slice Ao78 t313.length co78 : Value).ownBlock ∧ some k_ ≠ (.slice Ao105 t319.length co105 : Value).ownBlock ∧ some k_ ≠ (.slice Ao106 t322.length co106 : Value).ownBlock ∧ some k_ ≠ (.slice Ao110 t326.length co110 : Value).ownBlock ∧ some k_ ≠ (.slice Ao111 t329.length co111 : Value).ownBlock) (Kd.R_keptB (HO_310000.out) hkp (fun k_ hk_ hs_ => Or.elim hs_ (fun e_ => (hk_.1.1.1.1.2.2.1) e_) (fun e_ => (hk_.1.1.1.1.2.2.2.1) e_))) (fun k_ hk_ => ⟨hk_.1.1.1.1.1.1, hk_.1.1.1.1.1.2.1, hk_.1.1.1.1.1.2.2.1, hk_.1.1.1.1.1.2.2.2.1, hk_.1.1.1.1.1.2.2.2.2.1, hk_.1.1.1.1.1.2.2.2.2.2.1, hk_.1.1.1.1.1.2.2.2.2.2.2, hk_.1.1.1.1.2, hk_.1.1.1.2, hk_.1.1.2, hk_.1.2⟩)); replace HO_310001 := Aside0.mk (Kd.R_mono (ok' := fun k_ => some k_ ≠ (.slice Ao43 t288.length co43 : Value).ownBlock ∧ some k_ ≠ (.slice Ao45 t291.length co45 : Value).ownBlock ∧ some k_ ≠ (.slice Ao51 t296.length co51 : Value).ownBlock ∧ some k_ ≠ (.slice Ao56 t299.length co56 : Value).ownBlock ∧ some k_ ≠ (.slice Ao61 t303.length co61 : Value).ownBlock ∧ some k_ ≠ (.slice Ao71 t310.length co71 : Value).ownBlock ∧ some k_ ≠ (.slice Ao78 t313.length co78 : Value).ownBlock ∧ some k_ ≠ (.slice Ao105 t319.length co105 : Value).ownBlock ∧ some k_ ≠ (.slice Ao106 t322.length co106 : Value).ownBlock ∧ some k_ ≠ (.slice Ao110 t326.length co110 : Value).ownBlock ∧ some k_ ≠ (.slice Ao111 t329.length co111 : Value).ownBlock) (Kd.R_keptB (HO_310001.out) hkp (fun k_ hk_ hs_ => Or.elim hs_ (fun e_ => (hk_.1.1.1.1.2.2.1) e_) (fun e_ => (hk_.1.1.1.1.2.2.2.1) e_))) (fun k_ hk_ => ⟨hk_.1.1.1.1.1.1, hk_.1.1.1.1.1.2.1, hk_.1.1.1.1.1.2.2.1, hk_.1.1.1.1.1.2.2.2.1, hk_.1.1.1.1.1.2.2.2.2.1, hk_.1.1.1.1.1.2.2.2.2.2.1, hk_.1.1.1.1.1.2.2.2.2.2.2, hk_.1.1.1.1.2, hk_.1.1.1.2, hk_.1.1.2, hk_.1.2⟩)); replace HO_318000 := Aside0.mk (Kd.R_mono (ok' := fun k_ => some k_ ≠ (.slice Ao43 t288.length co43 : Value).ownBlock ∧ some k_ ≠ (.slice Ao45 t291.length co45 : Value).ownBlock ∧ some k_ ≠ (.slice Ao51 t296.length co51 : Value).ownBlock ∧ some k_ ≠ (.slice Ao56 t299.length co56 : Value).ownBlock ∧ some k_ ≠ (.slice Ao61 t303.length co61 : Value).ownBlock ∧ some k_ ≠ (.slice Ao67 t306.length co67 : Value).ownBlock ∧ some k_ ≠ (.slice Ao78 t313.length co78 : Value).ownBlock ∧ some k_ ≠ (.slice Ao105 t319.length co105 : Value).ownBlock ∧ some k_ ≠ (.slice Ao106 t322.length co106 : Value).ownBlock ∧ some k_ ≠ (.slice Ao110 t326.length co110 : Value).ownBlock ∧ some k_ ≠ (.slice Ao111 t329.length co111 : Value).ownBlock) (Kd.R_keptB (HO_318000.out) hkp (fun k_ hk_ hs_ => Or.elim hs_ (fun e_ => (hk_.1.1.1.1.2.2.1) e_) (fun e_ => (hk_.1.1.1.1.2.2.2.1) e_))) (fun k_ hk_ => ⟨hk_.1.1.1.1.1.1, hk_.1.1.1.1.1.2.1, hk_.1.1.1.1.1.2.2.1, hk_.1.1.1.1.1.2.2.2.1, hk_.1.1.1.1.1.2.2.2.2.1, hk_.1.1.1.1.1.2.2.2.2.2.1, hk_.1.1.1.1.1.2.2.2.2.2.2, hk_.1.1.1.1.2, hk_.1.1.1.2, hk_.1.1.2, hk_.1.2⟩)); replace HO_318001 := Aside0.mk (Kd.R_mono (ok' := fun k_ => some k_ ≠ (.slice Ao43 t288.length co43 : Value).ownBlock ∧ some k_ ≠ (.slice Ao45 t291.length co45 : Value).ownBlock ∧ some k_ ≠ (.slice Ao51 t296.length co51 : Value).ownBlock ∧ some k_ ≠ (.slice Ao56 t299.length co56 : Value).ownBlock ∧ some k_ ≠ (.slice Ao61 t303.length co61 : Value).ownBlock ∧ some k_ ≠ (.slice Ao67 t306.length co67 : Value).ownBlock ∧ some k_ ≠ (.slice Ao71 t310.length co71 : Value).ownBlock ∧ some k_ ≠ (.slice Ao105 t319.length co105 : Value).ownBlock ∧ some k_ ≠ (.slice Ao106 t322.length co106 : Value).ownBlock ∧ some k_ ≠ (.slice Ao110 t326.length co110 : Value).ownBlock ∧ some k_ ≠ (.slice Ao111 t329.length co111 : Value).ownBlock) (Kd.R_keptB (HO_318001.out) hkp (fun k_ hk_ hs_ => Or.elim hs_ (fun e_ => (hk_.1.1.1.1.2.2.1) e_) (fun e_ => (hk_.1.1.1.1.2.2.2.1) e_))) (fun k_ hk_ => ⟨hk_.1.1.1.1.1.1, hk_.1.1.1.1.1.2.1, hk_.1.1.1.1.1.2.2.1, hk_.1.1.1.1.1.2.2.2.1, hk_.1.1.1.1.1.2.2.2.2.1, hk_.1.1.1.1.1.2.2.2.2.2.1, hk_.1.1.1.1.1.2.2.2.2.2.2, hk_.1.1.1.1.2, hk_.1.1.1.2, hk_.1.1.2, hk_.1.2⟩)); replace BK272 := Aside0.mk (blk_kept (kU BK272.out) hkp (fun hs_ => Or.elim hs_ (fun e_ => (fun e_ => (Kd.R_ne HO_303000.out BK272.out (by decide)) e_) e_) (fun e_ => (fun e_ => (Kd.R_ne HO_303001.out BK272.out (by decide)) e_) e_))); replace BK273 := Aside0.mk (blk_kept (kU BK273.out) hkp (fun hs_ => Or.elim hs_ (fun e_ => (fun e_ => (Kd.R_ne HO_303000.out BK273.out (by decide)) e_) e_) (fun e_ => (fun e_ => (Kd.R_ne HO_303001.out BK273.out (by decide)) e_) e_))); replace BK295 := Aside0.mk (blk_kept (kU BK295.out) hkp (fun hs_ => Or.elim hs_ (fun e_ => (fun e_ => (Kd.R_ne HO_303000.out BK295.out (by decide)) e_) e_) (fun e_ => (fun e_ => (Kd.R_ne HO_303001.out BK295.out (by decide)) e_) e_))); replace BK302 := Aside0.mk (blk_kept (kU BK302.out) hkp (fun hs_ => Or.elim hs_ (fun e_ => (fun e_ => (Kd.R_ne HO_303000.out BK302.out (by decide)) e_) e_) (fun e_ => (fun e_ => (Kd.R_ne HO_303001.out BK302.out (by decide)) e_) e_))); replace BK309 := Aside0.mk (blk_kept (kU BK309.out) hkp (fun hs_ => Or.elim hs_ (fun e_ => (fun e_ => (Kd.R_ne HO_303000.out BK309.out (by decide)) e_) e_) (fun e_ => (fun e_ => (Kd.R_ne HO_303001.out BK309.out (by decide)) e_) e_))); replace BK317 := Aside0.mk (blk_kept (kU BK317.out) hkp (fun hs_ => Or.elim hs_ (fun e_ => (fun e_ => (Kd.R_ne HO_303000.out BK317.out (by decide)) e_) e_) (fun e_ => (fun e_ => (Kd.R_ne HO_303001.out BK317.out (by decide)) e_) e_))); replace HO_303000 := Aside0.mk (Kd.R_reok rfl hy0 (fun k_ e_ => HO_303000.out.1 k_ e_)); replace HO_303001 := Aside0.mk (Kd.R_reok rfl hy1 (fun k_ e_ => HO_303001.out.1 k_ e_)); replace HO321 := Aside0.mk (Kd.R_mono (ok' := fun k_ => some k_ ≠ (.slice Ao43 t288.length co43 : Value).ownBlock ∧ some k_ ≠ (.slice Ao45 t291.length co45 : Value).ownBlock ∧ some k_ ≠ (.slice Ao51 t296.length co51 : Value).ownBlock ∧ some k_ ≠ (.slice Ao56 t299.length co56 : Value).ownBlock ∧ some k_ ≠ (.slice Ao61 t303.length co61 : Value).ownBlock ∧ some k_ ≠ (.slice Ao67 t306.length co67 : Value).ownBlock ∧ some k_ ≠ (.slice Ao71 t310.length co71 : Value).ownBlock ∧ some k_ ≠ (.slice Ao78 t313.length co78 : Value).ownBlock ∧ some k_ ≠ (.slice Ao106 t322.length co106 : Value).ownBlock ∧ some k_ ≠ (.slice Ao110 t326.length co110 : Value).ownBlock ∧ some k_ ≠ (.slice Ao111 t329.length co111 : Value).ownBlock) (Kd.R_keptB (HO321.out) hkp (fun k_ hk_ hs_ => Or.elim hs_ (fun e_ => (hk_.1.1.1.1.1.1.1.2) e_) (fun e_ => (hk_.1.1.1.1.1.1.2) e_))) (fun k_ hk_ => ⟨hk_.1.1.1.1.1.1.1.1.1.1.2, hk_.1.1.1.1.1.1.1.1.1.2, hk_.1.1.1.1.1.1.1.1.2, hk_.1.1.1.1.1.1.1.2, hk_.1.1.1.1.1.1.2, hk_.1.1.1.1.1.2, hk_.1.1.1.1.2, hk_.1.1.1.2, hk_.1.1.1.1.1.1.1.1.1.1.1, hk_.1.1.2, hk_.1.2⟩)); replace HO324 := Aside0.mk (Kd.R_mono (ok' := fun k_ => some k_ ≠ (.slice Ao43 t288.length co43 : Value).ownBlock ∧ some k_ ≠ (.slice Ao45 t291.length co45 : Value).ownBlock ∧ some k_ ≠ (.slice Ao51 t296.length co51 : Value).ownBlock ∧ some k_ ≠ (.slice Ao56 t299.length co56 : Value).ownBlock ∧ some k_ ≠ (.slice Ao61 t303.length co61 : Value).ownBlock ∧ some k_ ≠ (.slice Ao67 t306.length co67 : Value).ownBlock ∧ some k_ ≠ (.slice Ao71 t310.length co71 : Value).ownBlock ∧ some k_ ≠ (.slice Ao78 t313.length co78 : Value).ownBlock ∧ some k_ ≠ (.slice Ao105 t319.length co105 : Value).ownBlock ∧ some k_ ≠ (.slice Ao110 t326.length co110 : Value).ownBlock ∧ some k_ ≠ (.slice Ao111 t329.length co111 : Value).ownBlock) (Kd.R_keptB (HO324.out) hkp (fun k_ hk_ hs_ => Or.elim hs_ (fun e_ => (hk_.1.1.1.1.1.1.1.2) e_) (fun e_ => (hk_.1.1.1.1.1.1.2) e_))) (fun k_ hk_ => ⟨hk_.1.1.1.1.1.1.1.1.1.1.2, hk_.1.1.1.1.1.1.1.1.1.2, hk_.1.1.1.1.1.1.1.1.2, hk_.1.1.1.1.1.1.1.2, hk_.1.1.1.1.1.1.2, hk_.1.1.1.1.1.2, hk_.1.1.1.1.2, hk_.1.1.1.2, hk_.1.1.1.1.1.1.1.1.1.1.1, hk_.1.1.2, hk_.1.2⟩)); replace HO328 := Aside0.mk (Kd.R_mono (ok' := fun k_ => some k_ ≠ (.slice Ao43 t288.length co43 : Value).ownBlock ∧ some k_ ≠ (.slice Ao45 t291.length co45 : Value).ownBlock ∧ some k_ ≠ (.slice Ao51 t296.length co51 : Value).ownBlock ∧ some k_ ≠ (.slice Ao56 t299.length co56 : Value).ownBlock ∧ some k_ ≠ (.slice Ao61 t303.length co61 : Value).ownBlock ∧ some k_ ≠ (.slice Ao67 t306.length co67 : Value).ownBlock ∧ some k_ ≠ (.slice Ao71 t310.length co71 : Value).ownBlock ∧ some k_ ≠ (.slice Ao78 t313.length co78 : Value).ownBlock ∧ some k_ ≠ (.slice Ao105 t319.length co105 : Value).ownBlock ∧ some k_ ≠ (.slice Ao106 t322.length co106 : Value).ownBlock ∧ some k_ ≠ (.slice Ao111 t329.length co111 : Value).ownBlock) (Kd.R_keptB (HO328.out) hkp (fun k_ hk_ hs_ => Or.elim hs_ (fun e_ => (hk_.1.1.1.1.1.1.1.2) e_) (fun e_ => (hk_.1.1.1.1.1.1.2) e_))) (fun k_ hk_ => ⟨hk_.1.1.1.1.1.1.1.1.1.1.2, hk_.1.1.1.1.1.1.1.1.1.2, hk_.1.1.1.1.1.1.1.1.2, hk_.1.1.1.1.1.1.1.2, hk_.1.1.1.1.1.1.2, hk_.1.1.1.1.1.2, hk_.1.1.1.1.2, hk_.1.1.1.2, hk_.1.1.2, hk_.1.2, hk_.1.1.1.1.1.1.1.1.1.1.1⟩)); replace HO331 := Aside0.mk (Kd.R_mono (ok' := fun k_ => some k_ ≠ (.slice Ao43 t288.length co43 : Value).ownBlock ∧ some k_ ≠ (.slice Ao45 t291.length co45 : Value).ownBlock ∧ some k_ ≠ (.slice Ao51 t296.length co51 : Value).ownBlock ∧ some k_ ≠ (.slice Ao56 t299.length co56 : Value).ownBlock ∧ some k_ ≠ (.slice Ao61 t303.length co61 : Value).ownBlock ∧ some k_ ≠ (.slice Ao67 t306.length co67 : Value).ownBlock ∧ some k_ ≠ (.slice Ao71 t310.length co71 : Value).ownBlock ∧ some k_ ≠ (.slice Ao78 t313.length co78 : Value).ownBlock ∧ some k_ ≠ (.slice Ao105 t319.length co105 : Value).ownBlock ∧ some k_ ≠ (.slice Ao106 t322.length co106 : Value).ownBlock ∧ some k_ ≠ (.slice Ao110 t326.length co110 : Value).ownBlock) (Kd.R_keptB (HO331.out) hkp (fun k_ hk_ hs_ => Or.elim hs_ (fun e_ => (hk_.1.1.1.1.1.1.1.2) e_) (fun e_ => (hk_.1.1.1.1.1.1.2) e_))) (fun k_ hk_ => ⟨hk_.1.1.1.1.1.1.1.1.1.1.2, hk_.1.1.1.1.1.1.1.1.1.2, hk_.1.1.1.1.1.1.1.1.2, hk_.1.1.1.1.1.1.1.2, hk_.1.1.1.1.1.1.2, hk_.1.1.1.1.1.2, hk_.1.1.1.1.2, hk_.1.1.1.2, hk_.1.1.2, hk_.1.2, hk_.1.1.1.1.1.1.1.1.1.1.1⟩)); replace HB := Aside0.mk (hb); (try clear hb); (try clear hkp); (try clear hy0); (try clear hy1); have hnb120 := NB309_272.out; have hnc120 := NB272_309.out; have hnb121 := NB309_273.out; have hnc121 := NB273_309.out; have hnb122 := NB309_295.out; have hnc122 := NB295_309.out; have hnb123 := NB309_317.out; have hnc123 := NB317_309.out; have hcz124_0 : w119.cell? ⟨gb309, 0, none⟩ = some (.slice Ao61 t303.length co61) := (blk_cell BK309.out 0).trans rfl; have hcz124_1 : w119.cell? ⟨gb309, 1, none⟩ = some (.slice Ao67 t306.length co67) := (blk_cell BK309.out 1).trans rfl; have hfz124_0 := blk_frozen BK309.out 0; have hfz124_1 := blk_frozen BK309.out 1) | ((with_reducible refine gate_callee (f := 20) rfl ?_); refine goesL_ (some 69) rfl rfl Try.func20 (by kernel_rfl) rfl #[.agg #[.slice Ao61 t303.length co61, .slice Ao67 t306.length co67], .int .i64 t333] rfl (by (try simp only [List.map_toArray, List.map_cons, List.map_nil]); first | done | rfl | (simp only [List.length_drop, List.length_take]; rfl)) ?_; (with_reducible refine (laws_markArray.calls kj24 (fun k_ => some k_ = (.slice Ao61 t303.length co61 : Value).ownBlock) (.slice Ao61 t303.length co61) t303 (fun k_ => some k_ = (.slice Ao67 t306.length co67 : Value).ownBlock) (.slice Ao67 t306.length co67) t306 t333 t336 t337 t338 w _ ?side1 ?side2 ?side3 ?side4 ?side5 A101.out).mono ?_); (case side1 => exact bS6 HB.out GE272.out GE273.out GE295.out GE302.out GE309.out GE317.out); (case side2 => exact Kd.R_tight rfl HO_310000.out); (case side3 => exact fun k_ e_ => (HO_310000.out.1 k_ e_.symm).2.2.2.2.1); (case side4 => exact Kd.R_tight rfl HO_310001.out); (case side5 => exact fun k_ e_ => (HO_310001.out.1 k_ e_.symm).2.2.2.2.1); rintro e w125 ⟨rfl, hy0, hy1, hb, hkp⟩; refine ⟨_, rfl, ?_⟩; replace HO_296000 := Aside0.mk (Kd.R_mono (ok' := fun k_ => some k_ ≠ (.slice Ao45 t291.length co45 : Value).ownBlock ∧ some k_ ≠ (.slice Ao51 t296.length co51 : Value).ownBlock ∧ some k_ ≠ (.slice Ao56 t299.length co56 : Value).ownBlock ∧ some k_ ≠ (.slice Ao61 t303.length co61 : Value).ownBlock ∧ some k_ ≠ (.slice Ao67 t306.length co67 : Value).ownBlock ∧ some k_ ≠ (.slice Ao71 t310.length co71 : Value).ownBlock ∧ some k_ ≠ (.slice Ao78 t313.length co78 : Value).ownBlock ∧ some k_ ≠ (.slice Ao105 t319.length co105 : Value).ownBlock ∧ some k_ ≠ (.slice Ao106 t322.length co106 : Value).ownBlock ∧ some k_ ≠ (.slice Ao110 t326.length co110 : Value).ownBlock ∧ some k_ ≠ (.slice Ao111 t329.length co111 : Value).ownBlock) (Kd.R_keptB (HO_296000.out) hkp (fun k_ hk_ hs_ => Or.elim hs_ (fun e_ => (hk_.2.2.2.1) e_) (fun e_ => (hk_.2.2.2.2.1) e_))) (fun k_ hk_ => ⟨hk_.1.1, hk_.1.2.1, hk_.1.2.2.1, hk_.1.2.2.2.1, hk_.1.2.2.2.2.1, hk_.1.2.2.2.2.2.1, hk_.1.2.2.2.2.2.2.1, hk_.1.2.2.2.2.2.2.2.1, hk_.1.2.2.2.2.2.2.2.2.1, hk_.1.2.2.2.2.2.2.2.2.2.1, hk_.1.2.2.2.2.2.2.2.2.2.2⟩)); replace HO_296001 := Aside0.mk (Kd.R_mono (ok' := fun k_ => some k_ ≠ (.slice Ao43 t288.length co43 : Value).ownBlock ∧ some k_ ≠ (.slice Ao51 t296.length co51 : Value).ownBlock ∧ some k_ ≠ (.slice Ao56 t299.length co56 : Value).ownBlock ∧ some k_ ≠ (.slice Ao61 t303.length co61 : Value).ownBlock ∧ some k_ ≠ (.slice Ao67 t306.length co67 : Value).ownBlock ∧ some k_ ≠ (.slice Ao71 t310.length co71 : Value).ownBlock ∧ some k_ ≠ (.slice Ao78 t313.length co78 : Value).ownBlock ∧ some k_ ≠ (.slice Ao105 t319.length co105 : Value).ownBlock ∧ some k_ ≠ (.slice Ao106 t322.length co106 : Value).ownBlock ∧ some k_ ≠ (.slice Ao110 t326.length co110 : Value).ownBlock ∧ some k_ ≠ (.slice Ao111 t329.length co111 : Value).ownBlock) (Kd.R_keptB (HO_296001.out) hkp (fun k_ hk_ hs_ => Or.elim hs_ (fun e_ => (hk_.2.2.2.1) e_) (fun e_ => (hk_.2.2.2.2.1) e_))) (fun k_ hk_ => ⟨hk_.1.1, hk_.1.2.1, hk_.1.2.2.1, hk_.1.2.2.2.1, hk_.1.2.2.2.2.1, hk_.1.2.2.2.2.2.1, hk_.1.2.2.2.2.2.2.1, hk_.1.2.2.2.2.2.2.2.1, hk_.1.2.2.2.2.2.2.2.2.1, hk_.1.2.2.2.2.2.2.2.2.2.1, hk_.1.2.2.2.2.2.2.2.2.2.2⟩)); replace HO_303000 := Aside0.mk (Kd.R_mono (ok' := fun k_ => some k_ ≠ (.slice Ao43 t288.length co43 : Value).ownBlock ∧ some k_ ≠ (.slice Ao45 t291.length co45 : Value).ownBlock ∧ some k_ ≠ (.slice Ao56 t299.length co56 : Value).ownBlock ∧ some k_ ≠ (.slice Ao61 t303.length co61 : Value).ownBlock ∧ some k_ ≠ (.slice Ao67 t306.length co67 : Value).ownBlock ∧ some k_ ≠ (.slice Ao71 t310.length co71 : Value).ownBlock ∧ some k_ ≠ (.slice Ao78 t313.length co78 : Value).ownBlock ∧ some k_ ≠ (.slice Ao105 t319.length co105 : Value).ownBlock ∧ some k_ ≠ (.slice Ao106 t322.length co106 : Value).ownBlock ∧ some k_ ≠ (.slice Ao110 t326.length co110 : Value).ownBlock ∧ some k_ ≠ (.slice Ao111 t329.length co111 : Value).ownBlock) (Kd.R_keptB (HO_303000.out) hkp (fun k_ hk_ hs_ => Or.elim hs_ (fun e_ => (hk_.1.1.1.1.2.2.2.1) e_) (fun e_ => (hk_.1.1.1.1.2.2.2.2.1) e_))) (fun k_ hk_ => ⟨hk_.1.1.1.1.1.1, hk_.1.1.1.1.1.2.1, hk_.1.1.1.1.1.2.2.1, hk_.1.1.1.1.1.2.2.2.1, hk_.1.1.1.1.1.2.2.2.2.1, hk_.1.1.1.1.1.2.2.2.2.2.1, hk_.1.1.1.1.1.2.2.2.2.2.2, hk_.1.1.1.1.2, hk_.1.1.1.2, hk_.1.1.2, hk_.1.2⟩)); replace HO_303001 := Aside0.mk (Kd.R_mono (ok' := fun k_ => some k_ ≠ (.slice Ao43 t288.length co43 : Value).ownBlock ∧ some k_ ≠ (.slice Ao45 t291.length co45 : Value).ownBlock ∧ some k_ ≠ (.slice Ao51 t296.length co51 : Value).ownBlock ∧ some k_ ≠ (.slice Ao61 t303.length co61 : Value).ownBlock ∧ some k_ ≠ (.slice Ao67 t306.length co67 : Value).ownBlock ∧ some k_ ≠ (.slice Ao71 t310.length co71 : Value).ownBlock ∧ some k_ ≠ (.slice Ao78 t313.length co78 : Value).ownBlock ∧ some k_ ≠ (.slice Ao105 t319.length co105 : Value).ownBlock ∧ some k_ ≠ (.slice Ao106 t322.length co106 : Value).ownBlock ∧ some k_ ≠ (.slice Ao110 t326.length co110 : Value).ownBlock ∧ some k_ ≠ (.slice Ao111 t329.length co111 : Value).ownBlock) (Kd.R_keptB (HO_303001.out) hkp (fun k_ hk_ hs_ => Or.elim hs_ (fun e_ => (hk_.1.1.1.1.2.2.2.1) e_) (fun e_ => (hk_.1.1.1.1.2.2.2.2.1) e_))) (fun k_ hk_ => ⟨hk_.1.1.1.1.1.1, hk_.1.1.1.1.1.2.1, hk_.1.1.1.1.1.2.2.1, hk_.1.1.1.1.1.2.2.2.1, hk_.1.1.1.1.1.2.2.2.2.1, hk_.1.1.1.1.1.2.2.2.2.2.1, hk_.1.1.1.1.1.2.2.2.2.2.2, hk_.1.1.1.1.2, hk_.1.1.1.2, hk_.1.1.2, hk_.1.2⟩)); replace HO_318000 := Aside0.mk (Kd.R_mono (ok' := fun k_ => some k_ ≠ (.slice Ao43 t288.length co43 : Value).ownBlock ∧ some k_ ≠ (.slice Ao45 t291.length co45 : Value).ownBlock ∧ some k_ ≠ (.slice Ao51 t296.length co51 : Value).ownBlock ∧ some k_ ≠ (.slice Ao56 t299.length co56 : Value).ownBlock ∧ some k_ ≠ (.slice Ao61 t303.length co61 : Value).ownBlock ∧ some k_ ≠ (.slice Ao67 t306.length co67 : Value).ownBlock ∧ some k_ ≠ (.slice Ao78 t313.length co78 : Value).ownBlock ∧ some k_ ≠ (.slice Ao105 t319.length co105 : Value).ownBlock ∧ some k_ ≠ (.slice Ao106 t322.length co106 : Value).ownBlock ∧ some k_ ≠ (.slice Ao110 t326.length co110 : Value).ownBlock ∧ some k_ ≠ (.slice Ao111 t329.length co111 : Value).ownBlock) (Kd.R_keptB (HO_318000.out) hkp (fun k_ hk_ hs_ => Or.elim hs_ (fun e_ => (hk_.2.2.2.2.1) e_) (fun e_ => (hk_.2.2.2.2.2.1) e_))) (fun k_ hk_ => ⟨hk_.1.1, hk_.1.2.1, hk_.1.2.2.1, hk_.1.2.2.2.1, hk_.1.2.2.2.2.1, hk_.1.2.2.2.2.2.1, hk_.1.2.2.2.2.2.2.1, hk_.1.2.2.2.2.2.2.2.1, hk_.1.2.2.2.2.2.2.2.2.1, hk_.1.2.2.2.2.2.2.2.2.2.1, hk_.1.2.2.2.2.2.2.2.2.2.2⟩)); replace HO_318001 := Aside0.mk (Kd.R_mono (ok' := fun k_ => some k_ ≠ (.slice Ao43 t288.length co43 : Value).ownBlock ∧ some k_ ≠ (.slice Ao45 t291.length co45 : Value).ownBlock ∧ some k_ ≠ (.slice Ao51 t296.length co51 : Value).ownBlock ∧ some k_ ≠ (.slice Ao56 t299.length co56 : Value).ownBlock ∧ some k_ ≠ (.slice Ao61 t303.length co61 : Value).ownBlock ∧ some k_ ≠ (.slice Ao67 t306.length co67 : Value).ownBlock ∧ some k_ ≠ (.slice Ao71 t310.length co71 : Value).ownBlock ∧ some k_ ≠ (.slice Ao105 t319.length co105 : Value).ownBlock ∧ some k_ ≠ (.slice Ao106 t322.length co106 : Value).ownBlock ∧ some k_ ≠ (.slice Ao110 t326.length co110 : Value).ownBlock ∧ some k_ ≠ (.slice Ao111 t329.length co111 : Value).ownBlock) (Kd.R_keptB (HO_318001.out) hkp (fun k_ hk_ hs_ => Or.elim hs_ (fun e_ => (hk_.2.2.2.2.1) e_) (fun e_ => (hk_.2.2.2.2.2.1) e_))) (fun k_ hk_ => ⟨hk_.1.1, hk_.1.2.1, hk_.1.2.2.1, hk_.1.2.2.2.1, hk_.1.2.2.2.2.1, hk_.1.2.2.2.2.2.1, hk_.1.2.2.2.2.2.2.1, hk_.1.2.2.2.2.2.2.2.1, hk_.1.2.2.2.2.2.2.2.2.1, hk_.1.2.2.2.2.2.2.2.2.2.1, hk_.1.2.2.2.2.2.2.2.2.2.2⟩)); replace BK272 := Aside0.mk (blk_kept (kU BK272.out) hkp (fun hs_ => Or.elim hs_ (fun e_ => (fun e_ => (Kd.R_ne HO_310000.out BK272.out (by decide)) e_) e_) (fun e_ => (fun e_ => (Kd.R_ne HO_310001.out BK272.out (by decide)) e_) e_))); replace BK273 := Aside0.mk (blk_kept (kU BK273.out) hkp (fun hs_ => Or.elim hs_ (fun e_ => (fun e_ => (Kd.R_ne HO_310000.out BK273.out (by decide)) e_) e_) (fun e_ => (fun e_ => (Kd.R_ne HO_310001.out BK273.out (by decide)) e_) e_))); replace BK295 := Aside0.mk (blk_kept (kU BK295.out) hkp (fun hs_ => Or.elim hs_ (fun e_ => (fun e_ => (Kd.R_ne HO_310000.out BK295.out (by decide)) e_) e_) (fun e_ => (fun e_ => (Kd.R_ne HO_310001.out BK295.out (by decide)) e_) e_))); replace BK302 := Aside0.mk (blk_kept (kU BK302.out) hkp (fun hs_ => Or.elim hs_ (fun e_ => (fun e_ => (Kd.R_ne HO_310000.out BK302.out (by decide)) e_) e_) (fun e_ => (fun e_ => (Kd.R_ne HO_310001.out BK302.out (by decide)) e_) e_))); replace BK309 := Aside0.mk (blk_kept (kU BK309.out) hkp (fun hs_ => Or.elim hs_ (fun e_ => (fun e_ => (Kd.R_ne HO_310000.out BK309.out (by decide)) e_) e_) (fun e_ => (fun e_ => (Kd.R_ne HO_310001.out BK309.out (by decide)) e_) e_))); replace BK317 := Aside0.mk (blk_kept (kU BK317.out) hkp (fun hs_ => Or.elim hs_ (fun e_ => (fun e_ => (Kd.R_ne HO_310000.out BK317.out (by decide)) e_) e_) (fun e_ => (fun e_ => (Kd.R_ne HO_310001.out BK317.out (by decide)) e_) e_))); replace HO_310000 := Aside0.mk (Kd.R_reok rfl hy0 (fun k_ e_ => HO_310000.out.1 k_ e_)); replace HO_310001 := Aside0.mk (Kd.R_reok rfl hy1 (fun k_ e_ => HO_310001.out.1 k_ e_)); replace HO321 := Aside0.mk (Kd.R_mono (ok' := fun k_ => some k_ ≠ (.slice Ao43 t288.length co43 : Value).ownBlock ∧ some k_ ≠ (.slice Ao45 t291.length co45 : Value).ownBlock ∧ some k_ ≠ (.slice Ao51 t296.length co51 : Value).ownBlock ∧ some k_ ≠ (.slice Ao56 t299.length co56 : Value).ownBlock ∧ some k_ ≠ (.slice Ao61 t303.length co61 : Value).ownBlock ∧ some k_ ≠ (.slice Ao67 t306.length co67 : Value).ownBlock ∧ some k_ ≠ (.slice Ao71 t310.length co71 : Value).ownBlock ∧ some k_ ≠ (.slice Ao78 t313.length co78 : Value).ownBlock ∧ some k_ ≠ (.slice Ao106 t322.length co106 : Value).ownBlock ∧ some k_ ≠ (.slice Ao110 t326.length co110 : Value).ownBlock ∧ some k_ ≠ (.slice Ao111 t329.length co111 : Value).ownBlock) (Kd.R_keptB (HO321.out) hkp (fun k_ hk_ hs_ => Or.elim hs_ (fun e_ => (hk_.2.2.2.2.1) e_) (fun e_ => (hk_.2.2.2.2.2.1) e_))) (fun k_ hk_ => ⟨hk_.1.1, hk_.1.2.1, hk_.1.2.2.1, hk_.1.2.2.2.1, hk_.1.2.2.2.2.1, hk_.1.2.2.2.2.2.1, hk_.1.2.2.2.2.2.2.1, hk_.1.2.2.2.2.2.2.2.1, hk_.1.2.2.2.2.2.2.2.2.1, hk_.1.2.2.2.2.2.2.2.2.2.1, hk_.1.2.2.2.2.2.2.2.2.2.2⟩)); replace HO324 := Aside0.mk (Kd.R_mono (ok' := fun k_ => some k_ ≠ (.slice Ao43 t288.length co43 : Value).ownBlock ∧ some k_ ≠ (.slice Ao45 t291.length co45 : Value).ownBlock ∧ some k_ ≠ (.slice Ao51 t296.length co51 : Value).ownBlock ∧ some k_ ≠ (.slice Ao56 t299.length co56 : Value).ownBlock ∧ some k_ ≠ (.slice Ao61 t303.length co61 : Value).ownBlock ∧ some k_ ≠ (.slice Ao67 t306.length co67 : Value).ownBlock ∧ some k_ ≠ (.slice Ao71 t310.length co71 : Value).ownBlock ∧ some k_ ≠ (.slice Ao78 t313.length co78 : Value).ownBlock ∧ some k_ ≠ (.slice Ao105 t319.length co105 : Value).ownBlock ∧ some k_ ≠ (.slice Ao110 t326.length co110 : Value).ownBlock ∧ some k_ ≠ (.slice Ao111 t329.length co111 : Value).ownBlock) (Kd.R_keptB (HO324.out) hkp (fun k_ hk_ hs_ => Or.elim hs_ (fun e_ => (hk_.2.2.2.2.1) e_) (fun e_ => (hk_.2.2.2.2.2.1) e_))) (fun k_ hk_ => ⟨hk_.1.1, hk_.1.2.1, hk_.1.2.2.1, hk_.1.2.2.2.1, hk_.1.2.2.2.2.1, hk_.1.2.2.2.2.2.1, hk_.1.2.2.2.2.2.2.1, hk_.1.2.2.2.2.2.2.2.1, hk_.1.2.2.2.2.2.2.2.2.1, hk_.1.2.2.2.2.2.2.2.2.2.1, hk_.1.2.2.2.2.2.2.2.2.2.2⟩)); replace HO328 := Aside0.mk (Kd.R_mono (ok' := fun k_ => some k_ ≠ (.slice Ao43 t288.length co43 : Value).ownBlock ∧ some k_ ≠ (.slice Ao45 t291.length co45 : Value).ownBlock ∧ some k_ ≠ (.slice Ao51 t296.length co51 : Value).ownBlock ∧ some k_ ≠ (.slice Ao56 t299.length co56 : Value).ownBlock ∧ some k_ ≠ (.slice Ao61 t303.length co61 : Value).ownBlock ∧ some k_ ≠ (.slice Ao67 t306.length co67 : Value).ownBlock ∧ some k_ ≠ (.slice Ao71 t310.length co71 : Value).ownBlock ∧ some k_ ≠ (.slice Ao78 t313.length co78 : Value).ownBlock ∧ some k_ ≠ (.slice Ao105 t319.length co105 : Value).ownBlock ∧ some k_ ≠ (.slice Ao106 t322.length co106 : Value).ownBlock ∧ some k_ ≠ (.slice Ao111 t329.length co111 : Value).ownBlock) (Kd.R_keptB (HO328.out) hkp (fun k_ hk_ hs_ => Or.elim hs_ (fun e_ => (hk_.2.2.2.2.1) e_) (fun e_ => (hk_.2.2.2.2.2.1) e_))) (fun k_ hk_ => ⟨hk_.1.1, hk_.1.2.1, hk_.1.2.2.1, hk_.1.2.2.2.1, hk_.1.2.2.2.2.1, hk_.1.2.2.2.2.2.1, hk_.1.2.2.2.2.2.2.1, hk_.1.2.2.2.2.2.2.2.1, hk_.1.2.2.2.2.2.2.2.2.1, hk_.1.2.2.2.2.2.2.2.2.2.1, hk_.1.2.2.2.2.2.2.2.2.2.2⟩)); replace HO331 := Aside0.mk (Kd.R_mono (ok' := fun k_ => some k_ ≠ (.slice Ao43 t288.length co43 : Value).ownBlock ∧ some k_ ≠ (.slice Ao45 t291.length co45 : Value).ownBlock ∧ some k_ ≠ (.slice Ao51 t296.length co51 : Value).ownBlock ∧ some k_ ≠ (.slice Ao56 t299.length co56 : Value).ownBlock ∧ some k_ ≠ (.slice Ao61 t303.length co61 : Value).ownBlock ∧ some k_ ≠ (.slice Ao67 t306.length co67 : Value).ownBlock ∧ some k_ ≠ (.slice Ao71 t310.length co71 : Value).ownBlock ∧ some k_ ≠ (.slice Ao78 t313.length co78 : Value).ownBlock ∧ some k_ ≠ (.slice Ao105 t319.length co105 : Value).ownBlock ∧ some k_ ≠ (.slice Ao106 t322.length co106 : Value).ownBlock ∧ some k_ ≠ (.slice Ao110 t326.length co110 : Value).ownBlock) (Kd.R_keptB (HO331.out) hkp (fun k_ hk_ hs_ => Or.elim hs_ (fun e_ => (hk_.2.2.2.2.1) e_) (fun e_ => (hk_.2.2.2.2.2.1) e_))) (fun k_ hk_ => ⟨hk_.1.1, hk_.1.2.1, hk_.1.2.2.1, hk_.1.2.2.2.1, hk_.1.2.2.2.2.1, hk_.1.2.2.2.2.2.1, hk_.1.2.2.2.2.2.2.1, hk_.1.2.2.2.2.2.2.2.1, hk_.1.2.2.2.2.2.2.2.2.1, hk_.1.2.2.2.2.2.2.2.2.2.1, hk_.1.2.2.2.2.2.2.2.2.2.2⟩)); replace HB := Aside0.mk (hb); (try clear hb); (try clear hkp); (try clear hy0); (try clear hy1)))
        (try simp only [Act.put, List.setIfInBounds_toArray, List.set_cons_zero, List.set_cons_succ])
        go_cut [82] (fun v82 wc => ∃ (kq : Nat) (x82_101 : Bool), v82 = .bool x82_101 ∧ Aside0 (laws_FnExactCopy.j1 kq t294 x82_101 l0_0 l0_1 l1_0 l1_1 t288 t291 t310 t313 = some r) ∧ Aside0 (kq ≤ kj24) ∧ Aside0 (Kd.R (Kd.int .i64) 3 wc w.heap.size (fun k_ => some k_ ≠ ((.slice Ao45 t291.length co45) : Value).ownBlock ∧ some k_ ≠ ((.slice Ao51 t296.length co51) : Value).ownBlock ∧ some k_ ≠ ((.slice Ao56 t299.length co56) : Value).ownBlock ∧ some k_ ≠ ((.slice Ao61 t303.length co61) : Value).ownBlock ∧ some k_ ≠ ((.slice Ao67 t306.length co67) : Value).ownBlock ∧ some k_ ≠ ((.slice Ao71 t310.length co71) : Value).ownBlock ∧ some k_ ≠ ((.slice Ao78 t313.length co78) : Value).ownBlock) (.slice Ao43 t288.length co43) t288) ∧ Aside0 (Kd.R (Kd.int .i64) 3 wc w.heap.size (fun k_ => some k_ ≠ ((.slice Ao43 t288.length co43) : Value).ownBlock ∧ some k_ ≠ ((.slice Ao51 t296.length co51) : Value).ownBlock ∧ some k_ ≠ ((.slice Ao56 t299.length co56) : Value).ownBlock ∧ some k_ ≠ ((.slice Ao61 t303.length co61) : Value).ownBlock ∧ some k_ ≠ ((.slice Ao67 t306.length co67) : Value).ownBlock ∧ some k_ ≠ ((.slice Ao71 t310.length co71) : Value).ownBlock ∧ some k_ ≠ ((.slice Ao78 t313.length co78) : Value).ownBlock) (.slice Ao45 t291.length co45) t291) ∧ Aside0 (Kd.R (Kd.int .i64) 3 wc w.heap.size (fun k_ => some k_ ≠ ((.slice Ao43 t288.length co43) : Value).ownBlock ∧ some k_ ≠ ((.slice Ao45 t291.length co45) : Value).ownBlock ∧ some k_ ≠ ((.slice Ao56 t299.length co56) : Value).ownBlock ∧ some k_ ≠ ((.slice Ao61 t303.length co61) : Value).ownBlock ∧ some k_ ≠ ((.slice Ao67 t306.length co67) : Value).ownBlock ∧ some k_ ≠ ((.slice Ao71 t310.length co71) : Value).ownBlock ∧ some k_ ≠ ((.slice Ao78 t313.length co78) : Value).ownBlock) (.slice Ao51 t296.length co51) t334) ∧ Aside0 (Kd.R (Kd.int .i64) 3 wc w.heap.size (fun k_ => some k_ ≠ ((.slice Ao43 t288.length co43) : Value).ownBlock ∧ some k_ ≠ ((.slice Ao45 t291.length co45) : Value).ownBlock ∧ some k_ ≠ ((.slice Ao51 t296.length co51) : Value).ownBlock ∧ some k_ ≠ ((.slice Ao61 t303.length co61) : Value).ownBlock ∧ some k_ ≠ ((.slice Ao67 t306.length co67) : Value).ownBlock ∧ some k_ ≠ ((.slice Ao71 t310.length co71) : Value).ownBlock ∧ some k_ ≠ ((.slice Ao78 t313.length co78) : Value).ownBlock) (.slice Ao56 t299.length co56) t335) ∧ Aside0 (Kd.R (Kd.int .i64) 3 wc w.heap.size (fun k_ => some k_ ≠ ((.slice Ao43 t288.length co43) : Value).ownBlock ∧ some k_ ≠ ((.slice Ao45 t291.length co45) : Value).ownBlock ∧ some k_ ≠ ((.slice Ao51 t296.length co51) : Value).ownBlock ∧ some k_ ≠ ((.slice Ao56 t299.length co56) : Value).ownBlock ∧ some k_ ≠ ((.slice Ao67 t306.length co67) : Value).ownBlock ∧ some k_ ≠ ((.slice Ao71 t310.length co71) : Value).ownBlock ∧ some k_ ≠ ((.slice Ao78 t313.length co78) : Value).ownBlock) (.slice Ao61 t303.length co61) t337) ∧ Aside0 (Kd.R (Kd.int .i64) 3 wc w.heap.size (fun k_ => some k_ ≠ ((.slice Ao43 t288.length co43) : Value).ownBlock ∧ some k_ ≠ ((.slice Ao45 t291.length co45) : Value).ownBlock ∧ some k_ ≠ ((.slice Ao51 t296.length co51) : Value).ownBlock ∧ some k_ ≠ ((.slice Ao56 t299.length co56) : Value).ownBlock ∧ some k_ ≠ ((.slice Ao61 t303.length co61) : Value).ownBlock ∧ some k_ ≠ ((.slice Ao71 t310.length co71) : Value).ownBlock ∧ some k_ ≠ ((.slice Ao78 t313.length co78) : Value).ownBlock) (.slice Ao67 t306.length co67) t338) ∧ Aside0 (Kd.R (Kd.int .i64) 3 wc w.heap.size (fun k_ => some k_ ≠ ((.slice Ao43 t288.length co43) : Value).ownBlock ∧ some k_ ≠ ((.slice Ao45 t291.length co45) : Value).ownBlock ∧ some k_ ≠ ((.slice Ao51 t296.length co51) : Value).ownBlock ∧ some k_ ≠ ((.slice Ao56 t299.length co56) : Value).ownBlock ∧ some k_ ≠ ((.slice Ao61 t303.length co61) : Value).ownBlock ∧ some k_ ≠ ((.slice Ao67 t306.length co67) : Value).ownBlock ∧ some k_ ≠ ((.slice Ao78 t313.length co78) : Value).ownBlock) (.slice Ao71 t310.length co71) t310) ∧ Aside0 (Kd.R (Kd.int .i64) 3 wc w.heap.size (fun k_ => some k_ ≠ ((.slice Ao43 t288.length co43) : Value).ownBlock ∧ some k_ ≠ ((.slice Ao45 t291.length co45) : Value).ownBlock ∧ some k_ ≠ ((.slice Ao51 t296.length co51) : Value).ownBlock ∧ some k_ ≠ ((.slice Ao56 t299.length co56) : Value).ownBlock ∧ some k_ ≠ ((.slice Ao61 t303.length co61) : Value).ownBlock ∧ some k_ ≠ ((.slice Ao67 t306.length co67) : Value).ownBlock ∧ some k_ ≠ ((.slice Ao71 t310.length co71) : Value).ownBlock) (.slice Ao78 t313.length co78) t313) ∧ Aside0 (wc.heap[gb272]? = some (.cells #[(.slice A0_0 l0_0.length c0_0), (.slice A0_1 l0_1.length c0_1)] 24 (0, 0))) ∧ Aside0 (wc.heap[gb273]? = some (.cells #[(.slice A1_0 l1_0.length c1_0), (.slice A1_1 l1_1.length c1_1)] 24 (0, 0))) ∧ Aside0 (wc.heap[gb295]? = some (.cells #[(.slice Ao43 t288.length co43), (.slice Ao45 t291.length co45)] 26 (0, 0))) ∧ Aside0 (wc.heap[gb302]? = some (.cells #[(.slice Ao51 t296.length co51), (.slice Ao56 t299.length co56)] 26 (0, 0))) ∧ Aside0 (wc.heap[gb309]? = some (.cells #[(.slice Ao61 t303.length co61), (.slice Ao67 t306.length co67)] 26 (0, 0))) ∧ Aside0 (wc.heap[gb317]? = some (.cells #[(.slice Ao71 t310.length co71), (.slice Ao78 t313.length co78)] 26 (0, 0))) ∧ Aside0 (Below w.heap.size w wc))
        case first =>
         have H := HC102.out
         clear HC102
         by_cases c126 : t336 < 0
         ·
          rw [if_pos c126] at H
          have c126b0 : decide (t336 < 0) = true := decide_eq_true c126
          clear c126
          (first | rw [c126b0] | (simp only [i64_w, i32_w]; rw [c126b0]) | skip)
          have hz_ : ∀ kz, laws_FnExactCopy.j1 kz t294 true l0_0 l0_1 l1_0 l1_1 t288 t291 t310 t313 = some r → r = false := by intro kz hz; cases kz with | zero => exact absurd hz (by simp [laws_FnExactCopy.j1]) | succ kz => simp only [laws_FnExactCopy.j1] at hz; first | (rw [if_pos rfl] at hz; exact (Option.some.inj hz).symm) | (simp at hz; exact hz.symm) | (simp at hz; exact hz)
          exact absurd (HT.out.symm.trans (hz_ _ H)) (by decide)
         ·
          rw [if_neg c126] at H
          have c126b0 : decide (t336 < 0) = false := decide_eq_false c126
          clear c126
          (first | rw [c126b0] | (simp only [i64_w, i32_w]; rw [c126b0]) | skip)
          replace H := Option.bind_eq_some_iff.mp H
          obtain ⟨t339, A1270, H⟩ := H
          replace H : (if t339 = true then (laws_FnExactCopy.j1 kj24 t294 (t316 != t294) l0_0 l0_1 l1_0 l1_1 t288 t291 t310 t313) else (laws_FnExactCopy.j1 kj24 t294 true l0_0 l0_1 l1_0 l1_1 t288 t291 t310 t313)) = some r := H
          have A127 := Aside0.mk A1270
          clear A1270
          by_cases c128 : t339 = true
          ·
           subst c128
           have H1 : (laws_FnExactCopy.j1 kj24 t294 (t316 != t294) l0_0 l0_1 l1_0 l1_1 t288 t291 t310 t313) = some r := by rw [if_pos rfl] at H; exact H
           clear H
           have H := H1
           clear H1
           have H' := Aside0.mk H
           clear H
           have hnb129 := NB317_272.out
           have hnc129 := NB272_317.out
           have hnb130 := NB317_273.out
           have hnc130 := NB273_317.out
           have hnb131 := NB317_295.out
           have hnc131 := NB295_317.out
           have hnb132 := NB317_302.out
           have hnc132 := NB302_317.out
           have hnb133 := NB317_309.out
           have hnc133 := NB309_317.out
           have hcz134_0 : w125.cell? ⟨gb317, 0, none⟩ = some (.slice Ao71 t310.length co71) := (blk_cell BK317.out 0).trans rfl
           have hcz134_1 : w125.cell? ⟨gb317, 1, none⟩ = some (.slice Ao78 t313.length co78) := (blk_cell BK317.out 1).trans rfl
           have hfz134_0 := blk_frozen BK317.out 0
           have hfz134_1 := blk_frozen BK317.out 1
           have hnb135 := NB295_272.out
           have hnc135 := NB272_295.out
           have hnb136 := NB295_273.out
           have hnc136 := NB273_295.out
           have hnb137 := NB295_302.out
           have hnc137 := NB302_295.out
           have hnb138 := NB295_309.out
           have hnc138 := NB309_295.out
           have hcz139_0 : w125.cell? ⟨gb295, 0, none⟩ = some (.slice Ao43 t288.length co43) := (blk_cell BK295.out 0).trans rfl
           have hcz139_1 : w125.cell? ⟨gb295, 1, none⟩ = some (.slice Ao45 t291.length co45) := (blk_cell BK295.out 1).trans rfl
           have hfz139_0 := blk_frozen BK295.out 0
           have hfz139_1 := blk_frozen BK295.out 1
           go_wp2_with (first | (go_at_call 19; (repeat rw [i64_w]); (with_reducible refine (laws_eqArray.calls kj24 _ _ t310 _ _ t313 _ _ t288 _ _ t291 true _ ?side1 ?side2 ?side3 ?side4 ?side5 ?side6 ?side7 ?side8 A127.out).mono ?_); (case side1 => exact cU (Kd.R_reads' HO_318000.out).2.2); (case side2 => exact (Kd.R_reads' HO_318000.out).2.1); (case side3 => exact cU (Kd.R_reads' HO_318001.out).2.2); (case side4 => exact (Kd.R_reads' HO_318001.out).2.1); (case side5 => exact cU (Kd.R_reads' HO_296000.out).2.2); (case side6 => exact (Kd.R_reads' HO_296000.out).2.1); (case side7 => exact cU (Kd.R_reads' HO_296001.out).2.2); (case side8 => exact (Kd.R_reads' HO_296001.out).2.1); rintro e w140 ⟨rfl, hb⟩; replace HO_296000 := Aside0.mk (Kd.R_below (RU HO_296000.out) hb); replace HO_296001 := Aside0.mk (Kd.R_below (RU HO_296001.out) hb); replace HO_303000 := Aside0.mk (Kd.R_below (RU HO_303000.out) hb); replace HO_303001 := Aside0.mk (Kd.R_below (RU HO_303001.out) hb); replace HO_310000 := Aside0.mk (Kd.R_below (RU HO_310000.out) hb); replace HO_310001 := Aside0.mk (Kd.R_below (RU HO_310001.out) hb); replace HO_318000 := Aside0.mk (Kd.R_below (RU HO_318000.out) hb); replace HO_318001 := Aside0.mk (Kd.R_below (RU HO_318001.out) hb); replace HO321 := Aside0.mk (Kd.R_below (RU HO321.out) hb); replace HO324 := Aside0.mk (Kd.R_below (RU HO324.out) hb); replace HO328 := Aside0.mk (Kd.R_below (RU HO328.out) hb); replace HO331 := Aside0.mk (Kd.R_below (RU HO331.out) hb); replace BK272 := Aside0.mk (blk_below (g := gb272) (o := .cells #[.slice A0_0 l0_0.length c0_0, .slice A0_1 l0_1.length c0_1] 24 (0, 0)) (kU BK272.out) hb); replace BK273 := Aside0.mk (blk_below (g := gb273) (o := .cells #[.slice A1_0 l1_0.length c1_0, .slice A1_1 l1_1.length c1_1] 24 (0, 0)) (kU BK273.out) hb); replace BK295 := Aside0.mk (blk_below (g := gb295) (o := .cells #[.slice Ao43 t288.length co43, .slice Ao45 t291.length co45] 26 (0, 0)) (kU BK295.out) hb); replace BK302 := Aside0.mk (blk_below (g := gb302) (o := .cells #[.slice Ao51 t296.length co51, .slice Ao56 t299.length co56] 26 (0, 0)) (kU BK302.out) hb); replace BK309 := Aside0.mk (blk_below (g := gb309) (o := .cells #[.slice Ao61 t303.length co61, .slice Ao67 t306.length co67] 26 (0, 0)) (kU BK309.out) hb); replace BK317 := Aside0.mk (blk_below (g := gb317) (o := .cells #[.slice Ao71 t310.length co71, .slice Ao78 t313.length co78] 26 (0, 0)) (kU BK317.out) hb); replace HB := Aside0.mk (below_step (bS6 HB.out GE272.out GE273.out GE295.out GE302.out GE309.out GE317.out) hb); (try clear hb); (try clear hb2); (try clear hk); (try clear hi)))
           go_meet
           case rel => exact ⟨_, ((t316 != t294)), (by first | rfl | (simp; done) | (simp [*]; done)), H', ⟨by have := HJ24.out; first | omega | exact Nat.le_refl _⟩, ⟨by (with_reducible repeat (first | apply Kd.R_alloc | apply Kd.R_drewN | apply Kd.R_drew)); exact Kd.R_mono HO_296000.out (fun _ hk => ⟨hk.1, ⟨hk.2.1, ⟨hk.2.2.1, ⟨hk.2.2.2.1, ⟨hk.2.2.2.2.1, ⟨hk.2.2.2.2.2.1, hk.2.2.2.2.2.2.1⟩⟩⟩⟩⟩⟩)⟩, ⟨by (with_reducible repeat (first | apply Kd.R_alloc | apply Kd.R_drewN | apply Kd.R_drew)); exact Kd.R_mono HO_296001.out (fun _ hk => ⟨hk.1, ⟨hk.2.1, ⟨hk.2.2.1, ⟨hk.2.2.2.1, ⟨hk.2.2.2.2.1, ⟨hk.2.2.2.2.2.1, hk.2.2.2.2.2.2.1⟩⟩⟩⟩⟩⟩)⟩, ⟨by (with_reducible repeat (first | apply Kd.R_alloc | apply Kd.R_drewN | apply Kd.R_drew)); exact Kd.R_mono HO_303000.out (fun _ hk => ⟨hk.1, ⟨hk.2.1, ⟨hk.2.2.1, ⟨hk.2.2.2.1, ⟨hk.2.2.2.2.1, ⟨hk.2.2.2.2.2.1, hk.2.2.2.2.2.2.1⟩⟩⟩⟩⟩⟩)⟩, ⟨by (with_reducible repeat (first | apply Kd.R_alloc | apply Kd.R_drewN | apply Kd.R_drew)); exact Kd.R_mono HO_303001.out (fun _ hk => ⟨hk.1, ⟨hk.2.1, ⟨hk.2.2.1, ⟨hk.2.2.2.1, ⟨hk.2.2.2.2.1, ⟨hk.2.2.2.2.2.1, hk.2.2.2.2.2.2.1⟩⟩⟩⟩⟩⟩)⟩, ⟨by (with_reducible repeat (first | apply Kd.R_alloc | apply Kd.R_drewN | apply Kd.R_drew)); exact Kd.R_mono HO_310000.out (fun _ hk => ⟨hk.1, ⟨hk.2.1, ⟨hk.2.2.1, ⟨hk.2.2.2.1, ⟨hk.2.2.2.2.1, ⟨hk.2.2.2.2.2.1, hk.2.2.2.2.2.2.1⟩⟩⟩⟩⟩⟩)⟩, ⟨by (with_reducible repeat (first | apply Kd.R_alloc | apply Kd.R_drewN | apply Kd.R_drew)); exact Kd.R_mono HO_310001.out (fun _ hk => ⟨hk.1, ⟨hk.2.1, ⟨hk.2.2.1, ⟨hk.2.2.2.1, ⟨hk.2.2.2.2.1, ⟨hk.2.2.2.2.2.1, hk.2.2.2.2.2.2.1⟩⟩⟩⟩⟩⟩)⟩, ⟨by (with_reducible repeat (first | apply Kd.R_alloc | apply Kd.R_drewN | apply Kd.R_drew)); exact Kd.R_mono HO_318000.out (fun _ hk => ⟨hk.1, ⟨hk.2.1, ⟨hk.2.2.1, ⟨hk.2.2.2.1, ⟨hk.2.2.2.2.1, ⟨hk.2.2.2.2.2.1, hk.2.2.2.2.2.2.1⟩⟩⟩⟩⟩⟩)⟩, ⟨by (with_reducible repeat (first | apply Kd.R_alloc | apply Kd.R_drewN | apply Kd.R_drew)); exact Kd.R_mono HO_318001.out (fun _ hk => ⟨hk.1, ⟨hk.2.1, ⟨hk.2.2.1, ⟨hk.2.2.2.1, ⟨hk.2.2.2.2.1, ⟨hk.2.2.2.2.2.1, hk.2.2.2.2.2.2.1⟩⟩⟩⟩⟩⟩)⟩, ⟨by (with_reducible repeat (first | refine blk_drewN ?_ _ | refine blk_drew ?_ | refine blk_alloc ?_ _)); exact BK272.out⟩, ⟨by (with_reducible repeat (first | refine blk_drewN ?_ _ | refine blk_drew ?_ | refine blk_alloc ?_ _)); exact BK273.out⟩, ⟨by (with_reducible repeat (first | refine blk_drewN ?_ _ | refine blk_drew ?_ | refine blk_alloc ?_ _)); exact BK295.out⟩, ⟨by (with_reducible repeat (first | refine blk_drewN ?_ _ | refine blk_drew ?_ | refine blk_alloc ?_ _)); exact BK302.out⟩, ⟨by (with_reducible repeat (first | refine blk_drewN ?_ _ | refine blk_drew ?_ | refine blk_alloc ?_ _)); exact BK309.out⟩, ⟨by (with_reducible repeat (first | refine blk_drewN ?_ _ | refine blk_drew ?_ | refine blk_alloc ?_ _)); exact BK317.out⟩, ⟨by exact bS6 HB.out GE272.out GE273.out GE295.out GE302.out GE309.out GE317.out⟩⟩
          ·
           replace c128 := Bool.eq_false_iff.mpr c128
           subst c128
           have H1 : (laws_FnExactCopy.j1 kj24 t294 true l0_0 l0_1 l1_0 l1_1 t288 t291 t310 t313) = some r := by rw [if_neg (show ¬ (false = true) by decide)] at H; exact H
           clear H
           have H := H1
           clear H1
           have hz_ : ∀ kz, laws_FnExactCopy.j1 kz t294 true l0_0 l0_1 l1_0 l1_1 t288 t291 t310 t313 = some r → r = false := by intro kz hz; cases kz with | zero => exact absurd hz (by simp [laws_FnExactCopy.j1]) | succ kz => simp only [laws_FnExactCopy.j1] at hz; first | (rw [if_pos rfl] at hz; exact (Option.some.inj hz).symm) | (simp at hz; exact hz.symm) | (simp at hz; exact hz)
           exact absurd (HT.out.symm.trans (hz_ _ H)) (by decide)
        case rest =>
         clear HC102
         try clear c1
         try clear c2
         try clear p2
         try clear c9
         try clear c11
         try clear c12
         try clear c13
         try clear c17
         try clear c19
         try clear c20
         try clear c96
         try clear c99
         try clear c113
         try clear c114
         try clear c115
         try clear c116
         try clear c117
         try clear c120
         try clear c121
         try clear c122
         try clear c123
         try clear c126
         try clear c126b0
         try clear c128
         try clear c129
         try clear c130
         try clear c131
         try clear c132
         try clear c133
         try clear c135
         try clear c136
         try clear c137
         try clear c138
         try clear hcz118_0
         try clear hcz118_1
         try clear hcz124_0
         try clear hcz124_1
         try clear hcz134_0
         try clear hcz134_1
         try clear hcz139_0
         try clear hcz139_1
         try clear hfz118_0
         try clear hfz118_1
         try clear hfz124_0
         try clear hfz124_1
         try clear hfz134_0
         try clear hfz134_1
         try clear hfz139_0
         try clear hfz139_1
         obtain ⟨kq, x82_101, rfl, HA, HJ101, HO_296000, HO_296001, HO_303000, HO_303001, HO_310000, HO_310001, HO_318000, HO_318001, BK272, BK273, BK295, BK302, BK309, BK317, HB⟩ := hcut
         have hl303000_101 := (Kd.R_reads' HO_303000.out).1
         rw [hl303000_101] at HO_303000
         (try simp only [hl303000_101])
         (try simp only [hl303000_101] at BK272)
         (try simp only [hl303000_101] at BK273)
         (try simp only [hl303000_101] at BK295)
         (try simp only [hl303000_101] at BK302)
         (try simp only [hl303000_101] at BK309)
         (try simp only [hl303000_101] at BK317)
         (try simp only [hl303000_101] at HO_296000)
         (try simp only [hl303000_101] at HO_296001)
         (try simp only [hl303000_101] at HO_303001)
         (try simp only [hl303000_101] at HO_310000)
         (try simp only [hl303000_101] at HO_310001)
         (try simp only [hl303000_101] at HO_318000)
         (try simp only [hl303000_101] at HO_318001)
         have hl303001_101 := (Kd.R_reads' HO_303001.out).1
         rw [hl303001_101] at HO_303001
         (try simp only [hl303001_101])
         (try simp only [hl303001_101] at BK272)
         (try simp only [hl303001_101] at BK273)
         (try simp only [hl303001_101] at BK295)
         (try simp only [hl303001_101] at BK302)
         (try simp only [hl303001_101] at BK309)
         (try simp only [hl303001_101] at BK317)
         (try simp only [hl303001_101] at HO_296000)
         (try simp only [hl303001_101] at HO_296001)
         (try simp only [hl303001_101] at HO_303000)
         (try simp only [hl303001_101] at HO_310000)
         (try simp only [hl303001_101] at HO_310001)
         (try simp only [hl303001_101] at HO_318000)
         (try simp only [hl303001_101] at HO_318001)
         have hl310000_101 := (Kd.R_reads' HO_310000.out).1
         rw [hl310000_101] at HO_310000
         (try simp only [hl310000_101])
         (try simp only [hl310000_101] at BK272)
         (try simp only [hl310000_101] at BK273)
         (try simp only [hl310000_101] at BK295)
         (try simp only [hl310000_101] at BK302)
         (try simp only [hl310000_101] at BK309)
         (try simp only [hl310000_101] at BK317)
         (try simp only [hl310000_101] at HO_296000)
         (try simp only [hl310000_101] at HO_296001)
         (try simp only [hl310000_101] at HO_303000)
         (try simp only [hl310000_101] at HO_303001)
         (try simp only [hl310000_101] at HO_310001)
         (try simp only [hl310000_101] at HO_318000)
         (try simp only [hl310000_101] at HO_318001)
         have hl310001_101 := (Kd.R_reads' HO_310001.out).1
         rw [hl310001_101] at HO_310001
         (try simp only [hl310001_101])
         (try simp only [hl310001_101] at BK272)
         (try simp only [hl310001_101] at BK273)
         (try simp only [hl310001_101] at BK295)
         (try simp only [hl310001_101] at BK302)
         (try simp only [hl310001_101] at BK309)
         (try simp only [hl310001_101] at BK317)
         (try simp only [hl310001_101] at HO_296000)
         (try simp only [hl310001_101] at HO_296001)
         (try simp only [hl310001_101] at HO_303000)
         (try simp only [hl310001_101] at HO_303001)
         (try simp only [hl310001_101] at HO_310000)
         (try simp only [hl310001_101] at HO_318000)
         (try simp only [hl310001_101] at HO_318001)
         cases kq with
         | zero => exact absurd HA.out (by simp [laws_FnExactCopy.j1])
         | succ kj101 =>
          have H := HA.out
          clear HA
          simp only [laws_FnExactCopy.j1] at H
          by_cases c141 : x82_101 = true
          ·
           subst c141
           have H1 : (some false) = some r := by rw [if_pos rfl] at H; exact H
           clear H
           have H := H1
           clear H1
           obtain rfl := Option.some.inj H
           exact absurd HT.out (by decide)
          ·
           replace c141 := Bool.eq_false_iff.mpr c141
           subst c141
           have H1 : ((laws_markArray.f kj101 t310 t313 1).bind fun bt340 => ((laws_heldArray.f kj101 bt340.2.1 bt340.2.2 1).bind fun t343 => (if t343 < 0 then (some false) else (if t343 = bt340.1 then ((laws_toArray.f kj101 l0_0 l0_1).bind fun bt344 => ((laws_toArray.f kj101 l1_0 l1_1).bind fun bt350 => ((impl_Copy.f kj101 bt344.1 bt344.2 bt350.1 bt350.2).bind fun bt356 => ((laws_eqArray.f kj101 bt356.1 bt356.2.1 t288 t291).bind fun t364 => (if t364 = true then (laws_FnExactCopy.j2 kj101 bt340.1 (bt356.2.2 != t294) bt340.2.1 bt340.2.2) else (laws_FnExactCopy.j2 kj101 bt340.1 true bt340.2.1 bt340.2.2)))))) else (some false))))) = some r := by rw [if_neg (show ¬ (false = true) by decide)] at H; exact H
           clear H
           have H := H1
           clear H1
           replace H := Option.bind_eq_some_iff.mp H
           obtain ⟨⟨t340, t341, t342⟩, A1420, H⟩ := H
           replace H : ((laws_heldArray.f kj101 t341 t342 1).bind fun t343 => (if t343 < 0 then (some false) else (if t343 = t340 then ((laws_toArray.f kj101 l0_0 l0_1).bind fun bt344 => ((laws_toArray.f kj101 l1_0 l1_1).bind fun bt350 => ((impl_Copy.f kj101 bt344.1 bt344.2 bt350.1 bt350.2).bind fun bt356 => ((laws_eqArray.f kj101 bt356.1 bt356.2.1 t288 t291).bind fun t364 => (if t364 = true then (laws_FnExactCopy.j2 kj101 t340 (bt356.2.2 != t294) t341 t342) else (laws_FnExactCopy.j2 kj101 t340 true t341 t342)))))) else (some false)))) = some r := H
           have A142 := Aside0.mk A1420
           clear A1420
           replace H := Option.bind_eq_some_iff.mp H
           obtain ⟨t343, A1430, H⟩ := H
           replace H : (if t343 < 0 then (some false) else (if t343 = t340 then ((laws_toArray.f kj101 l0_0 l0_1).bind fun bt344 => ((laws_toArray.f kj101 l1_0 l1_1).bind fun bt350 => ((impl_Copy.f kj101 bt344.1 bt344.2 bt350.1 bt350.2).bind fun bt356 => ((laws_eqArray.f kj101 bt356.1 bt356.2.1 t288 t291).bind fun t364 => (if t364 = true then (laws_FnExactCopy.j2 kj101 t340 (bt356.2.2 != t294) t341 t342) else (laws_FnExactCopy.j2 kj101 t340 true t341 t342)))))) else (some false))) = some r := H
           have A143 := Aside0.mk A1430
           clear A1430
           by_cases c144 : t343 < 0
           ·
            rw [if_pos c144] at H
            have c144b0 : decide (t343 < 0) = true := decide_eq_true c144
            clear c144
            obtain rfl := Option.some.inj H
            exact absurd HT.out (by decide)
           ·
            rw [if_neg c144] at H
            have c144b0 : decide (t343 < 0) = false := decide_eq_false c144
            clear c144
            by_cases c145 : t343 = t340
            ·
             rw [if_pos c145] at H
             have c145b0 : (t343 == t340) = true := beq_iff_eq.mpr c145
             have c145b1 : (t343 != t340) = false := bne_eq_false_iff_eq.mpr c145
             clear c145
             replace H := Option.bind_eq_some_iff.mp H
             obtain ⟨⟨t344, t347⟩, A1460, H⟩ := H
             replace H : ((laws_toArray.f kj101 l1_0 l1_1).bind fun bt350 => ((impl_Copy.f kj101 t344 t347 bt350.1 bt350.2).bind fun bt356 => ((laws_eqArray.f kj101 bt356.1 bt356.2.1 t288 t291).bind fun t364 => (if t364 = true then (laws_FnExactCopy.j2 kj101 t340 (bt356.2.2 != t294) t341 t342) else (laws_FnExactCopy.j2 kj101 t340 true t341 t342))))) = some r := H
             have A146 := Aside0.mk A1460
             clear A1460
             replace H := Option.bind_eq_some_iff.mp H
             obtain ⟨⟨t350, t353⟩, A1470, H⟩ := H
             replace H : ((impl_Copy.f kj101 t344 t347 t350 t353).bind fun bt356 => ((laws_eqArray.f kj101 bt356.1 bt356.2.1 t288 t291).bind fun t364 => (if t364 = true then (laws_FnExactCopy.j2 kj101 t340 (bt356.2.2 != t294) t341 t342) else (laws_FnExactCopy.j2 kj101 t340 true t341 t342)))) = some r := H
             have A147 := Aside0.mk A1470
             clear A1470
             replace H := Option.bind_eq_some_iff.mp H
             obtain ⟨⟨t356, t359, t362⟩, A1480, H⟩ := H
             replace H : ((laws_eqArray.f kj101 t356 t359 t288 t291).bind fun t364 => (if t364 = true then (laws_FnExactCopy.j2 kj101 t340 (t362 != t294) t341 t342) else (laws_FnExactCopy.j2 kj101 t340 true t341 t342))) = some r := H
             have A148 := Aside0.mk A1480
             clear A1480
             have HC149 := Aside0.mk H
             clear H
             have hnb150 := NB317_272.out
             have hnc150 := NB272_317.out
             have hnb151 := NB317_273.out
             have hnc151 := NB273_317.out
             have hnb152 := NB317_295.out
             have hnc152 := NB295_317.out
             have hnb153 := NB317_302.out
             have hnc153 := NB302_317.out
             have hnb154 := NB317_309.out
             have hnc154 := NB309_317.out
             have hcz155_0 : wc.cell? ⟨gb317, 0, none⟩ = some (.slice Ao71 t310.length co71) := (blk_cell BK317.out 0).trans rfl
             have hcz155_1 : wc.cell? ⟨gb317, 1, none⟩ = some (.slice Ao78 t313.length co78) := (blk_cell BK317.out 1).trans rfl
             have hfz155_0 := blk_frozen BK317.out 0
             have hfz155_1 := blk_frozen BK317.out 1
             try go_wp2_with (first | ((with_reducible refine gate_callee (f := 20) rfl ?_); refine goesL_ (some 85) rfl rfl Try.func20 (by kernel_rfl) rfl #[.agg #[.slice Ao71 t310.length co71, .slice Ao78 t313.length co78], .int .i64 1] rfl (by (try simp only [List.map_toArray, List.map_cons, List.map_nil]); first | done | rfl | (simp only [List.length_drop, List.length_take]; rfl)) ?_; (with_reducible refine (laws_markArray.calls kj101 (fun k_ => some k_ = (.slice Ao71 t310.length co71 : Value).ownBlock) (.slice Ao71 t310.length co71) t310 (fun k_ => some k_ = (.slice Ao78 t313.length co78 : Value).ownBlock) (.slice Ao78 t313.length co78) t313 1 t340 t341 t342 w _ ?side1 ?side2 ?side3 ?side4 ?side5 A142.out).mono ?_); (case side1 => exact bS6 HB.out GE272.out GE273.out GE295.out GE302.out GE309.out GE317.out); (case side2 => exact Kd.R_tight rfl HO_318000.out); (case side3 => exact fun k_ e_ => (HO_318000.out.1 k_ e_.symm).2.2.2.2.2.2); (case side4 => exact Kd.R_tight rfl HO_318001.out); (case side5 => exact fun k_ e_ => (HO_318001.out.1 k_ e_.symm).2.2.2.2.2.2); rintro e w156 ⟨rfl, hy0, hy1, hb, hkp⟩; refine ⟨_, rfl, ?_⟩; replace HO_296000 := Aside0.mk (Kd.R_mono (ok' := fun k_ => some k_ ≠ (.slice Ao45 t291.length co45 : Value).ownBlock ∧ some k_ ≠ (.slice Ao51 t334.length co51 : Value).ownBlock ∧ some k_ ≠ (.slice Ao56 t335.length co56 : Value).ownBlock ∧ some k_ ≠ (.slice Ao61 t337.length co61 : Value).ownBlock ∧ some k_ ≠ (.slice Ao67 t338.length co67 : Value).ownBlock ∧ some k_ ≠ (.slice Ao71 t310.length co71 : Value).ownBlock ∧ some k_ ≠ (.slice Ao78 t313.length co78 : Value).ownBlock) (Kd.R_keptB (HO_296000.out) hkp (fun k_ hk_ hs_ => Or.elim hs_ (fun e_ => (hk_.2.2.2.2.2.1) e_) (fun e_ => (hk_.2.2.2.2.2.2) e_))) (fun k_ hk_ => ⟨hk_.1.1, hk_.1.2.1, hk_.1.2.2.1, hk_.1.2.2.2.1, hk_.1.2.2.2.2.1, hk_.1.2.2.2.2.2.1, hk_.1.2.2.2.2.2.2⟩)); replace HO_296001 := Aside0.mk (Kd.R_mono (ok' := fun k_ => some k_ ≠ (.slice Ao43 t288.length co43 : Value).ownBlock ∧ some k_ ≠ (.slice Ao51 t334.length co51 : Value).ownBlock ∧ some k_ ≠ (.slice Ao56 t335.length co56 : Value).ownBlock ∧ some k_ ≠ (.slice Ao61 t337.length co61 : Value).ownBlock ∧ some k_ ≠ (.slice Ao67 t338.length co67 : Value).ownBlock ∧ some k_ ≠ (.slice Ao71 t310.length co71 : Value).ownBlock ∧ some k_ ≠ (.slice Ao78 t313.length co78 : Value).ownBlock) (Kd.R_keptB (HO_296001.out) hkp (fun k_ hk_ hs_ => Or.elim hs_ (fun e_ => (hk_.2.2.2.2.2.1) e_) (fun e_ => (hk_.2.2.2.2.2.2) e_))) (fun k_ hk_ => ⟨hk_.1.1, hk_.1.2.1, hk_.1.2.2.1, hk_.1.2.2.2.1, hk_.1.2.2.2.2.1, hk_.1.2.2.2.2.2.1, hk_.1.2.2.2.2.2.2⟩)); replace HO_303000 := Aside0.mk (Kd.R_mono (ok' := fun k_ => some k_ ≠ (.slice Ao43 t288.length co43 : Value).ownBlock ∧ some k_ ≠ (.slice Ao45 t291.length co45 : Value).ownBlock ∧ some k_ ≠ (.slice Ao56 t335.length co56 : Value).ownBlock ∧ some k_ ≠ (.slice Ao61 t337.length co61 : Value).ownBlock ∧ some k_ ≠ (.slice Ao67 t338.length co67 : Value).ownBlock ∧ some k_ ≠ (.slice Ao71 t310.length co71 : Value).ownBlock ∧ some k_ ≠ (.slice Ao78 t313.length co78 : Value).ownBlock) (Kd.R_keptB (HO_303000.out) hkp (fun k_ hk_ hs_ => Or.elim hs_ (fun e_ => (hk_.2.2.2.2.2.1) e_) (fun e_ => (hk_.2.2.2.2.2.2) e_))) (fun k_ hk_ => ⟨hk_.1.1, hk_.1.2.1, hk_.1.2.2.1, hk_.1.2.2.2.1, hk_.1.2.2.2.2.1, hk_.1.2.2.2.2.2.1, hk_.1.2.2.2.2.2.2⟩)); replace HO_303001 := Aside0.mk (Kd.R_mono (ok' := fun k_ => some k_ ≠ (.slice Ao43 t288.length co43 : Value).ownBlock ∧ some k_ ≠ (.slice Ao45 t291.length co45 : Value).ownBlock ∧ some k_ ≠ (.slice Ao51 t334.length co51 : Value).ownBlock ∧ some k_ ≠ (.slice Ao61 t337.length co61 : Value).ownBlock ∧ some k_ ≠ (.slice Ao67 t338.length co67 : Value).ownBlock ∧ some k_ ≠ (.slice Ao71 t310.length co71 : Value).ownBlock ∧ some k_ ≠ (.slice Ao78 t313.length co78 : Value).ownBlock) (Kd.R_keptB (HO_303001.out) hkp (fun k_ hk_ hs_ => Or.elim hs_ (fun e_ => (hk_.2.2.2.2.2.1) e_) (fun e_ => (hk_.2.2.2.2.2.2) e_))) (fun k_ hk_ => ⟨hk_.1.1, hk_.1.2.1, hk_.1.2.2.1, hk_.1.2.2.2.1, hk_.1.2.2.2.2.1, hk_.1.2.2.2.2.2.1, hk_.1.2.2.2.2.2.2⟩)); replace HO_310000 := Aside0.mk (Kd.R_mono (ok' := fun k_ => some k_ ≠ (.slice Ao43 t288.length co43 : Value).ownBlock ∧ some k_ ≠ (.slice Ao45 t291.length co45 : Value).ownBlock ∧ some k_ ≠ (.slice Ao51 t334.length co51 : Value).ownBlock ∧ some k_ ≠ (.slice Ao56 t335.length co56 : Value).ownBlock ∧ some k_ ≠ (.slice Ao67 t338.length co67 : Value).ownBlock ∧ some k_ ≠ (.slice Ao71 t310.length co71 : Value).ownBlock ∧ some k_ ≠ (.slice Ao78 t313.length co78 : Value).ownBlock) (Kd.R_keptB (HO_310000.out) hkp (fun k_ hk_ hs_ => Or.elim hs_ (fun e_ => (hk_.2.2.2.2.2.1) e_) (fun e_ => (hk_.2.2.2.2.2.2) e_))) (fun k_ hk_ => ⟨hk_.1.1, hk_.1.2.1, hk_.1.2.2.1, hk_.1.2.2.2.1, hk_.1.2.2.2.2.1, hk_.1.2.2.2.2.2.1, hk_.1.2.2.2.2.2.2⟩)); replace HO_310001 := Aside0.mk (Kd.R_mono (ok' := fun k_ => some k_ ≠ (.slice Ao43 t288.length co43 : Value).ownBlock ∧ some k_ ≠ (.slice Ao45 t291.length co45 : Value).ownBlock ∧ some k_ ≠ (.slice Ao51 t334.length co51 : Value).ownBlock ∧ some k_ ≠ (.slice Ao56 t335.length co56 : Value).ownBlock ∧ some k_ ≠ (.slice Ao61 t337.length co61 : Value).ownBlock ∧ some k_ ≠ (.slice Ao71 t310.length co71 : Value).ownBlock ∧ some k_ ≠ (.slice Ao78 t313.length co78 : Value).ownBlock) (Kd.R_keptB (HO_310001.out) hkp (fun k_ hk_ hs_ => Or.elim hs_ (fun e_ => (hk_.2.2.2.2.2.1) e_) (fun e_ => (hk_.2.2.2.2.2.2) e_))) (fun k_ hk_ => ⟨hk_.1.1, hk_.1.2.1, hk_.1.2.2.1, hk_.1.2.2.2.1, hk_.1.2.2.2.2.1, hk_.1.2.2.2.2.2.1, hk_.1.2.2.2.2.2.2⟩)); replace BK272 := Aside0.mk (blk_kept (kU BK272.out) hkp (fun hs_ => Or.elim hs_ (fun e_ => (fun e_ => (Kd.R_ne HO_318000.out BK272.out (by decide)) e_) e_) (fun e_ => (fun e_ => (Kd.R_ne HO_318001.out BK272.out (by decide)) e_) e_))); replace BK273 := Aside0.mk (blk_kept (kU BK273.out) hkp (fun hs_ => Or.elim hs_ (fun e_ => (fun e_ => (Kd.R_ne HO_318000.out BK273.out (by decide)) e_) e_) (fun e_ => (fun e_ => (Kd.R_ne HO_318001.out BK273.out (by decide)) e_) e_))); replace BK295 := Aside0.mk (blk_kept (kU BK295.out) hkp (fun hs_ => Or.elim hs_ (fun e_ => (fun e_ => (Kd.R_ne HO_318000.out BK295.out (by decide)) e_) e_) (fun e_ => (fun e_ => (Kd.R_ne HO_318001.out BK295.out (by decide)) e_) e_))); replace BK302 := Aside0.mk (blk_kept (kU BK302.out) hkp (fun hs_ => Or.elim hs_ (fun e_ => (fun e_ => (Kd.R_ne HO_318000.out BK302.out (by decide)) e_) e_) (fun e_ => (fun e_ => (Kd.R_ne HO_318001.out BK302.out (by decide)) e_) e_))); replace BK309 := Aside0.mk (blk_kept (kU BK309.out) hkp (fun hs_ => Or.elim hs_ (fun e_ => (fun e_ => (Kd.R_ne HO_318000.out BK309.out (by decide)) e_) e_) (fun e_ => (fun e_ => (Kd.R_ne HO_318001.out BK309.out (by decide)) e_) e_))); replace BK317 := Aside0.mk (blk_kept (kU BK317.out) hkp (fun hs_ => Or.elim hs_ (fun e_ => (fun e_ => (Kd.R_ne HO_318000.out BK317.out (by decide)) e_) e_) (fun e_ => (fun e_ => (Kd.R_ne HO_318001.out BK317.out (by decide)) e_) e_))); replace HO_318000 := Aside0.mk (Kd.R_reok rfl hy0 (fun k_ e_ => HO_318000.out.1 k_ e_)); replace HO_318001 := Aside0.mk (Kd.R_reok rfl hy1 (fun k_ e_ => HO_318001.out.1 k_ e_)); replace HB := Aside0.mk (hb); (try clear hb); (try clear hkp); (try clear hy0); (try clear hy1); have hcz157_0 : w156.cell? ⟨gb317, 0, none⟩ = some (.slice Ao71 t310.length co71) := (blk_cell BK317.out 0).trans rfl; have hcz157_1 : w156.cell? ⟨gb317, 1, none⟩ = some (.slice Ao78 t313.length co78) := (blk_cell BK317.out 1).trans rfl; have hfz157_0 := blk_frozen BK317.out 0; have hfz157_1 := blk_frozen BK317.out 1) | ((with_reducible refine gate_callee (f := 21) rfl ?_); refine goesL_ (some 88) rfl rfl Try.func21 (by kernel_rfl) rfl #[.agg #[.slice Ao71 t341.length co71, .slice Ao78 t342.length co78], .int .i64 1] rfl (by (try simp only [List.map_toArray, List.map_cons, List.map_nil]); first | done | (rw [show t341.length = t310.length from (Kd.R_reads' HO_318000.out).1.symm, show t342.length = t313.length from (Kd.R_reads' HO_318001.out).1.symm] <;> rfl) | rfl | (simp only [List.length_drop, List.length_take]; rfl)) ?_; (with_reducible refine (laws_heldArray.calls kj101 _ _ t341 _ _ t342 1 t343 _ ?side1 ?side2 ?side3 ?side4 A143.out).mono ?_); (case side1 => exact cU (Kd.R_reads' HO_318000.out).2.2); (case side2 => rw [show t341.length = t310.length from (Kd.R_reads' HO_318000.out).1.symm]; exact (Kd.R_reads' HO_318000.out).2.1); (case side3 => exact cU (Kd.R_reads' HO_318001.out).2.2); (case side4 => rw [show t342.length = t313.length from (Kd.R_reads' HO_318001.out).1.symm]; exact (Kd.R_reads' HO_318001.out).2.1); rintro e w158 ⟨rfl, hb⟩; refine ⟨_, rfl, ?_⟩; replace HO_296000 := Aside0.mk (Kd.R_below (RU HO_296000.out) hb); replace HO_296001 := Aside0.mk (Kd.R_below (RU HO_296001.out) hb); replace HO_303000 := Aside0.mk (Kd.R_below (RU HO_303000.out) hb); replace HO_303001 := Aside0.mk (Kd.R_below (RU HO_303001.out) hb); replace HO_310000 := Aside0.mk (Kd.R_below (RU HO_310000.out) hb); replace HO_310001 := Aside0.mk (Kd.R_below (RU HO_310001.out) hb); replace HO_318000 := Aside0.mk (Kd.R_below (RU HO_318000.out) hb); replace HO_318001 := Aside0.mk (Kd.R_below (RU HO_318001.out) hb); replace BK272 := Aside0.mk (blk_below (g := gb272) (o := .cells #[.slice A0_0 l0_0.length c0_0, .slice A0_1 l0_1.length c0_1] 24 (0, 0)) (kU BK272.out) hb); replace BK273 := Aside0.mk (blk_below (g := gb273) (o := .cells #[.slice A1_0 l1_0.length c1_0, .slice A1_1 l1_1.length c1_1] 24 (0, 0)) (kU BK273.out) hb); replace BK295 := Aside0.mk (blk_below (g := gb295) (o := .cells #[.slice Ao43 t288.length co43, .slice Ao45 t291.length co45] 26 (0, 0)) (kU BK295.out) hb); replace BK302 := Aside0.mk (blk_below (g := gb302) (o := .cells #[.slice Ao51 t334.length co51, .slice Ao56 t335.length co56] 26 (0, 0)) (kU BK302.out) hb); replace BK309 := Aside0.mk (blk_below (g := gb309) (o := .cells #[.slice Ao61 t337.length co61, .slice Ao67 t338.length co67] 26 (0, 0)) (kU BK309.out) hb); replace BK317 := Aside0.mk (blk_below (g := gb317) (o := .cells #[.slice Ao71 t310.length co71, .slice Ao78 t313.length co78] 26 (0, 0)) (kU BK317.out) hb); replace HB := Aside0.mk (below_step (bS6 HB.out GE272.out GE273.out GE295.out GE302.out GE309.out GE317.out) hb); (try clear hb); (try clear hb2); (try clear hk); (try clear hi)))
             replace HO_296000 := Aside0.mk (Kd.R_drew HO_296000.out)
             replace HO_296001 := Aside0.mk (Kd.R_drew HO_296001.out)
             replace HO_303000 := Aside0.mk (Kd.R_drew HO_303000.out)
             replace HO_303001 := Aside0.mk (Kd.R_drew HO_303001.out)
             replace HO_310000 := Aside0.mk (Kd.R_drew HO_310000.out)
             replace HO_310001 := Aside0.mk (Kd.R_drew HO_310001.out)
             replace HO_318000 := Aside0.mk (Kd.R_drew HO_318000.out)
             replace HO_318001 := Aside0.mk (Kd.R_drew HO_318001.out)
             replace BK272 := Aside0.mk (blk_drew BK272.out)
             replace BK273 := Aside0.mk (blk_drew BK273.out)
             replace BK295 := Aside0.mk (blk_drew BK295.out)
             replace BK302 := Aside0.mk (blk_drew BK302.out)
             replace BK309 := Aside0.mk (blk_drew BK309.out)
             replace BK317 := Aside0.mk (blk_drew BK317.out)
             replace HB := Aside0.mk (below_drew1 HB.out)
             refine start_ (n := 11) (S := fun w' => w'.cell? ⟨gb272, 0, none⟩ = some (.slice A0_0 l0_0.length c0_0) ∧ w'.cell? ⟨gb272, 1, none⟩ = some (.slice A0_1 l0_1.length c0_1) ∧ w'.cell? ⟨gb273, 0, none⟩ = some (.slice A1_0 l1_0.length c1_0) ∧ w'.cell? ⟨gb273, 1, none⟩ = some (.slice A1_1 l1_1.length c1_1)) (ds := []) #[false, false, false, false, false, false, false, false, false, false, false] (by kernel_rfl) rfl rfl ⟨(blk_cell BK272.out 0).trans rfl, (blk_cell BK272.out 1).trans rfl, (blk_cell BK273.out 0).trans rfl, (blk_cell BK273.out 1).trans rfl⟩ (fun hHeld => ?_); refine with_tabW laws_FnExactCopy.tab31 laws_FnExactCopy.bits31 (fun HT_ HW_ => ?_)
             generalize w158.drew = w159 at HO_296000 HO_296001 HO_303000 HO_303001 HO_310000 HO_310001 HO_318000 HO_318001 BK272 BK273 BK295 BK302 BK309 BK317 HB hHeld ⊢
             refine take_ (i := 0) (N := some 95) (v := ?_) (a' := ?_) #[true, false, false, false, false, false, false, false, false, false, false] rfl rfl (take_ofW HT_.out HW_.out (by kernel_rfl)) (fun _ _ _ h => h) (Or.inl ⟨by rfl, ?_⟩) hHeld ?_ ?_
             rotate_left
             ·
              rintro w' ⟨s0, s1, s2, s3⟩
              go_simp
              with_reducible rfl
             rotate_left
             ·
              simp only [Act.put, List.setIfInBounds_toArray, List.set_cons_zero, List.set_cons_succ, i64_w, i32_w]
              rfl
             refine take_ (i := 2) (N := some 97) (v := ?_) (a' := ?_) #[true, false, true, false, false, false, false, false, false, false, false] rfl rfl (take_ofW HT_.out HW_.out (by kernel_rfl)) (fun _ _ _ h => h) (Or.inl ⟨by rfl, ?_⟩) hHeld ?_ ?_
             rotate_left
             ·
              rintro w' ⟨s0, s1, s2, s3⟩
              go_simp
              with_reducible rfl
             rotate_left
             ·
              simp only [Act.put, List.setIfInBounds_toArray, List.set_cons_zero, List.set_cons_succ, i64_w, i32_w]
              rfl
             rename_i h1_52 h1_75 h1_76 h1_78 h1_92 h1_109 h1_163 h1_166 h1_169 h1_172 h1_175 h1_178 h1_181 h1_208 h1_209 h1_210 h1_211 h1_212 h1_213 h1_214 h1_215 h1_216 h1_217 h1_218 h1_219 h1_220 h1_221 h1_222 h1_223 h1_224 h1_225 h1_226 h1_227 h1_228 h1_229 h1_230 h1_231 h1_232 h1_233 h1_234 h1_235 h1_236 h1_237 h1_238 h1_239 h1_240 h1_241 h1_242 h1_243 h1_244 h1_245 h1_246 h1_247 h1_248 h1_249 h1_250 h1_251 h1_252 h1_253 h1_254 h1_255 h1_256 h1_257 h1_258 h1_259 h1_260 h1_261 h1_262 h1_263 h1_264 h1_265 h1_266 h1_267 h1_268 h1_269 h1_270 h1_271 h1_272 h1_274 h1_275 h1_276 h1_277 h1_278 h1_279 h1_280 h1_281 h1_282 h1_283 h1_284 h1_285 h1_286 h1_287 h1_288 h1_289 h1_290 h1_291 h1_292 h1_293 h1_294 h1_295 h1_296 h1_297 h1_298 h1_299 h1_300 h1_301 h1_302 h1_303 h1_304 h1_305 h1_306 h1_307 h1_308 h1_309 h1_329 h1_335 h1_337 h1_339 h1_345 h1_347 h1_368 h1_369 h1_370 h1_371 h1_372 h1_373 h1_374 h1_375 h1_376 h1_377 h1_378 h1_379 h1_380 h1_381 h1_386 h1_535 h1_536
             revert k A0_0 c0_0 l0_0 A0_1 c0_1 l0_1 A1_0 c1_0 l1_0 A1_1 c1_1 l1_1 r w HT hu24 hu26 HR0_0 HC0_0 HR0_1 HC0_1 HR1_0 HC1_0 HR1_1 HC1_1 t274 A3 c4b0 t275 A10 c11b0 t276 t279 A19 t282 t285 A20 t288 t291 t294 A21 t296 t299 A22 t303 t306 A23 t310 t313 t316 A24 h1_52 gb272 w26 GW272 GE272 gb273 w27 GW273 GE273 NB272_273 NB273_272 hnb28 hnc28 hcz29_0 hcz29_1 hfz29_0 hfz29_1 w30 hcz31_0 hcz31_1 hfz31_0 hfz31_1 w32 h1_75 h1_76 w33 h1_78 v277 v280 v283 v286 gb295 w42 hS_ GW295 GE295 NB272_295 NB295_272 NB273_295 NB295_273 h1_92 Ao43 co43 Ao45 co45 hs44 hfs44 hns44_0 hns44_1 hms44_0 hms44_1 hs46 hfs46 hns46_0 hns46_1 hms46_0 hms46_1 h1_109 hnb47 hnc47 w49 gb302 w50 GW302 GE302 NB272_302 NB302_272 NB273_302 NB302_273 NB295_302 NB302_295 Ao51 co51 hnb52 hnc52 hnb53 hnc53 hnb54 hnc54 Ao56 co56 hnb57 hnc57 w59 gb309 w60 GW309 GE309 NB272_309 NB309_272 NB273_309 NB309_273 NB295_309 NB309_295 NB302_309 NB309_302 Ao61 co61 hnb62 hnc62 hnb63 hnc63 hnb64 hnc64 hnb65 hnc65 Ao67 co67 w69 gb317 w70 h1_163 GW317 GE317 h1_166 NB272_317 NB317_272 h1_169 NB273_317 NB317_273 h1_172 NB295_317 NB317_295 h1_175 NB302_317 NB317_302 h1_178 NB309_317 NB317_309 h1_181 Ao71 co71 hnb72 hnc72 hnb73 hnc73 hnb74 hnc74 hnb75 hnc75 hnb76 hnc76 Ao78 co78 HO278 HO281 HO284 HO287 HO290 HO293 HO298 HO301 HO305 HO308 HO312 HO315 h1_208 h1_209 h1_210 h1_211 h1_212 h1_213 h1_214 h1_215 h1_216 h1_217 h1_218 h1_219 h1_220 h1_221 h1_222 h1_223 h1_224 h1_225 h1_226 h1_227 h1_228 h1_229 h1_230 h1_231 h1_232 h1_233 h1_234 h1_235 h1_236 h1_237 h1_238 h1_239 h1_240 h1_241 h1_242 h1_243 h1_244 h1_245 h1_246 h1_247 h1_248 h1_249 h1_250 h1_251 h1_252 h1_253 h1_254 h1_255 h1_256 h1_257 h1_258 h1_259 h1_260 h1_261 h1_262 h1_263 h1_264 h1_265 h1_266 h1_267 h1_268 h1_269 h1_270 h1_271 h1_272 u82 h1_274 h1_275 h1_276 h1_277 h1_278 h1_279 h1_280 h1_281 h1_282 h1_283 h1_284 h1_285 h1_286 h1_287 h1_288 h1_289 h1_290 h1_291 h1_292 h1_293 h1_294 h1_295 h1_296 h1_297 h1_298 h1_299 h1_300 h1_301 h1_302 h1_303 h1_304 h1_305 h1_306 h1_307 h1_308 h1_309 kj24 HJ24 t319 t322 A94 A95 t326 t329 A97 A98 t333 t334 t335 A100 t336 t337 t338 A101 w103 h1_329 w104 Ao105 co105 Ao106 co106 h1_335 w107 h1_337 w108 h1_339 w109 Ao110 co110 Ao111 co111 h1_345 w112 h1_347 hnb113 hnc113 hnb114 hnc114 hnb115 hnc115 hnb116 hnc116 hnb117 hnc117 w119 hnb120 hnc120 hnb121 hnc121 hnb122 hnc122 hnb123 hnc123 w125 h1_368 h1_369 h1_370 h1_371 h1_372 h1_373 h1_374 h1_375 h1_376 h1_377 h1_378 h1_379 h1_380 h1_381 HO321 HO324 HO328 HO331 h1_386 wc u17 u18 u19 u20 u21 u22 u23 u24 u25 u26 u27 u28 u29 u30 u31 u32 u33 u34 u35 u36 u37 u38 u39 u40 u41 u42 u43 u44 u45 u46 u47 u48 u49 u50 u51 u52 u53 u54 u55 u56 u57 u58 u59 u60 u61 u62 u63 u64 u65 u66 u67 u68 u69 u70 u71 u72 u73 u74 u75 u76 u77 u78 u79 u80 u81 u83 u84 u85 u86 u87 u88 u89 u90 u91 u92 u93 u94 u95 u96 u97 u98 u99 u100 u101 u102 u103 u104 u105 u106 u107 u108 u109 u110 u111 u112 u113 u114 u115 u116 u117 u118 hl303000_101 hl303001_101 hl310000_101 hl310001_101 kj101 HJ101 t340 t341 t342 A142 t343 A143 c144b0 c145b0 c145b1 t344 t347 A146 t350 t353 A147 t356 t359 t362 A148 HC149 hnb150 hnc150 hnb151 hnc151 hnb152 hnc152 hnb153 hnc153 hnb154 hnc154 hcz155_0 hcz155_1 hfz155_0 hfz155_1 w156 hcz157_0 hcz157_1 hfz157_0 hfz157_1 w158 h1_535 h1_536 HT_ HW_ w159 HO_296000 HO_296001 HO_303000 HO_303001 HO_310000 HO_310001 HO_318000 HO_318001 BK272 BK273 BK295 BK302 BK309 BK317 HB hHeld
             exact hRest_ trivial
            ·
             rw [if_neg c145] at H
             have c145b0 : (t343 == t340) = false := beq_eq_false_iff_ne.mpr c145
             have c145b1 : (t343 != t340) = true := bne_iff_ne.mpr c145
             obtain rfl := Option.some.inj H
             exact absurd HT.out (by decide)
       ·
        replace c99 := Bool.eq_false_iff.mpr c99
        subst c99
        have H1 : (some false) = some r := by rw [if_neg (show ¬ (false = true) by decide)] at H; exact H
        clear H
        have H := H1
        clear H1
        obtain rfl := Option.some.inj H
        exact absurd HT.out (by decide)
      ·
       replace c96 := Bool.eq_false_iff.mpr c96
       subst c96
       have H1 : (some false) = some r := by rw [if_neg (show ¬ (false = true) by decide)] at H; exact H
       clear H
       have H := H1
       clear H1
       obtain rfl := Option.some.inj H
       exact absurd HT.out (by decide)⟩
end Go.Proofs.Ytcnbajdnlkcjjaa.PFnExactCopy
